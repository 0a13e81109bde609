/- Plain functions: what the code computes. -/
import Derived.Test.YtnajnkghilemhaaGreatDoorVTy
import Derived.Test.YtnajnkghilemhaaGreatDoorXVc
import Derived.Test.YtnajnkghilemhaaGreatDoorDfr

namespace Go.Lf
open Go.RowKit Go.OB

/-- internal/stringslite.IndexByte -/
def F_internal_stringslite_IndexByte (p0 : Str) (p1 : Int) : Option Int :=
  bindO (X_IndexByte p0 p1) fun x3 =>
  some x3

/-- strings.IndexByte -/
def F_strings_IndexByte (p0 : Str) (p1 : Int) : Option Int :=
  bindO (F_internal_stringslite_IndexByte p0 p1) fun x4 =>
  some x4

def F_event_reader_blanks_L1 (p0 : EventReader) : Int → Option EventReader := loopO fun k169 g165 =>
  letO (p0.text.length : Int) fun x185 =>
  letO (decide (g165 < x185)) fun x187 =>
  iteB x187
  (bindO (byte' p0.text g165) fun x194 =>
  bindO (letO (decide (x194 = 32)) fun x215 =>
  iteB x215
  (some x215)
  (letO (decide (x194 = 9)) fun x219 =>
  iteB x219
  (some x219)
  (letO (decide (x194 = 10)) fun x223 =>
  iteB x223
  (some x223)
  (letO (decide (x194 = 13)) fun x226 =>
  some x226)))) fun g211 =>
  iteB g211
  (letO (IntKind.i64.wrap (g165 + 1)) fun x229 =>
  k169 x229)
  (letO (decide (x194 = 35)) fun x233 =>
  iteB x233
  (bindO (sub' p0.text g165 (p0.text.length : Int)) fun x239 =>
  bindO (F_strings_IndexByte x239 10) fun x242 =>
  bindO (letO (decide (x242 < 0)) fun x260 =>
  iteB x260
  (letO (p0.text.length : Int) fun x265 =>
  letO (IntKind.i64.wrap (x265 - g165)) fun x267 =>
  some x267)
  (some x242)) fun g256 =>
  letO (IntKind.i64.wrap (g165 + g256)) fun x270 =>
  k169 x270)
  (some (EventReader.mk p0.text g165 p0.now p0.r))))
  (some (EventReader.mk p0.text g165 p0.now p0.r))
/-- (*orangebox/event.reader).blanks -/
def F_event_reader_blanks (p0 : EventReader) : Option EventReader :=
  F_event_reader_blanks_L1 p0 p0.at_

/-- orangebox/event.nameByte -/
def F_event_nameByte (p0 : Int) : Option Bool :=
  bindO (letO (decide (97 ≤ p0)) fun x31 =>
  iteB x31
  (letO (decide (p0 ≤ 122)) fun x34 =>
  iteB x34
  (some true)
  (letO (decide (48 ≤ p0)) fun x37 =>
  iteB x37
  (letO (decide (p0 ≤ 57)) fun x40 =>
  iteB x40
  (some true)
  (letO (decide (p0 = 45)) fun x43 =>
  some x43))
  (letO (decide (p0 = 45)) fun x45 =>
  some x45)))
  (letO (decide (48 ≤ p0)) fun x47 =>
  iteB x47
  (letO (decide (p0 ≤ 57)) fun x50 =>
  iteB x50
  (some true)
  (letO (decide (p0 = 45)) fun x53 =>
  some x53))
  (letO (decide (p0 = 45)) fun x55 =>
  some x55))) fun g28 =>
  some g28

/-- orangebox/event.isWord -/
def F_event_isWord (p0 : Str) : Option Bool :=
  bindO (letO (decide ((p0 : Str) = [112, 104, 97, 115, 101])) fun x138 =>
  iteB x138
  (some x138)
  (letO (decide ((p0 : Str) = [109, 111, 118, 101])) fun x142 =>
  iteB x142
  (some x142)
  (letO (decide ((p0 : Str) = [114, 117, 108, 101])) fun x146 =>
  iteB x146
  (some x146)
  (letO (decide ((p0 : Str) = [105, 102])) fun x150 =>
  iteB x150
  (some x150)
  (letO (decide ((p0 : Str) = [111, 114])) fun x154 =>
  iteB x154
  (some x154)
  (letO (decide ((p0 : Str) = [97, 110, 100])) fun x158 =>
  iteB x158
  (some x158)
  (letO (decide ((p0 : Str) = [116, 114, 117, 101])) fun x162 =>
  iteB x162
  (some x162)
  (letO (decide ((p0 : Str) = [102, 97, 108, 115, 101])) fun x166 =>
  iteB x166
  (some x166)
  (letO (decide ((p0 : Str) = [115, 116, 101, 97, 100, 121])) fun x170 =>
  iteB x170
  (some x170)
  (letO (decide ((p0 : Str) = [110, 111, 116])) fun x174 =>
  iteB x174
  (some x174)
  (letO (decide ((p0 : Str) = [102, 111, 114])) fun x178 =>
  iteB x178
  (some x178)
  (letO (decide ((p0 : Str) = [119, 105, 116, 104, 105, 110])) fun x182 =>
  iteB x182
  (some x182)
  (letO (decide ((p0 : Str) = [99, 111, 117, 110, 116])) fun x186 =>
  iteB x186
  (some x186)
  (letO (decide ((p0 : Str) = [111, 102])) fun x190 =>
  iteB x190
  (some x190)
  (letO (decide ((p0 : Str) = [114, 105, 115, 101, 115])) fun x194 =>
  iteB x194
  (some x194)
  (letO (decide ((p0 : Str) = [115, 105, 110, 99, 101])) fun x197 =>
  some x197)))))))))))))))) fun g134 =>
  iteB g134
  (some true)
  (some false)

/-- orangebox/event.within -/
def F_event_within (p0 : Int) (p1 : Int) (p2 : Int) : Option Bool :=
  bindO (letO (decide (p1 ≤ p0)) fun x10 =>
  iteB x10
  (letO (decide (p0 ≤ p2)) fun x13 =>
  some x13)
  (some false)) fun g7 =>
  some g7

def F_event_isName_L1 (p0 : Str) (k169 : Unit → Option Bool) (x172 : Int) : Int → Option Bool := loopO fun k249 g245 =>
  letO (decide (g245 < x172)) fun x253 =>
  iteB x253
  (bindO (byte' p0 g245) fun x274 =>
  bindO (F_event_nameByte x274) fun x277 =>
  letO (!x277) fun x281 =>
  iteB x281
  (some false)
  (letO (IntKind.i64.wrap (g245 + 1)) fun x285 =>
  k249 x285))
  (k169 ())
/-- orangebox/event.isName -/
def F_event_isName (p0 : Str) : Option Bool :=
  bindO (letO (p0.length : Int) fun x61 =>
  bindO (F_event_within x61 1 30) fun x64 =>
  letO (!x64) fun x68 =>
  iteB x68
  (some true)
  (bindO (byte' p0 0) fun x71 =>
  letO (decide (x71 < 97)) fun x73 =>
  iteB x73
  (some true)
  (bindO (byte' p0 0) fun x76 =>
  letO (decide (122 < x76)) fun x78 =>
  iteB x78
  (some true)
  (bindO (F_event_isWord p0) fun x82 =>
  some x82)))) fun g58 =>
  iteB g58
  (some false)
  (joinO (fun _ =>
  some true) fun k169 =>
  letO (p0.length : Int) fun x172 =>
  F_event_isName_L1 p0 k169 x172 0)

/-- internal/stringslite.HasPrefix -/
def F_internal_stringslite_HasPrefix (p0 : Str) (p1 : Str) : Option Bool :=
  bindO (letO (p0.length : Int) fun x18 =>
  letO (p1.length : Int) fun x20 =>
  letO (decide (x20 ≤ x18)) fun x22 =>
  iteB x22
  (letO (p1.length : Int) fun x25 =>
  bindO (sub' p0 0 x25) fun x27 =>
  letO (decide ((x27 : Str) = p1)) fun x29 =>
  some x29)
  (some false)) fun g15 =>
  some g15

/-- internal/stringslite.TrimPrefix -/
def F_internal_stringslite_TrimPrefix (p0 : Str) (p1 : Str) : Option Str :=
  bindO (F_internal_stringslite_HasPrefix p0 p1) fun x17 =>
  iteB x17
  (letO (p1.length : Int) fun x23 =>
  bindO (sub' p0 x23 (p0.length : Int)) fun x25 =>
  some x25)
  (some p0)

/-- strings.TrimPrefix -/
def F_strings_TrimPrefix (p0 : Str) (p1 : Str) : Option Str :=
  bindO (F_internal_stringslite_TrimPrefix p0 p1) fun x4 =>
  some x4

/-- (*orangebox/event.reader).fail -/
def F_event_reader_fail (p0 : Option EventReader) (p1 : Int) : Option Unit :=
  none

/-- (*orangebox/event.reader).run -/
def F_event_reader_run (p0 : EventReader) : Option EventReader :=
  bindO (X_Atoi p0.now.text) fun ⟨x15, x16⟩ =>
  bindO (F_event_isWord p0.now.text) fun x24 =>
  iteB x24
  (some (EventReader.mk p0.text p0.at_ (EventToken.mk 1 p0.now.at_ p0.now.n p0.now.text) p0.r))
  (bindO (F_event_isName p0.now.text) fun x32 =>
  iteB x32
  (some (EventReader.mk p0.text p0.at_ (EventToken.mk 2 p0.now.at_ p0.now.n p0.now.text) p0.r))
  (bindO (letO x16 fun x61 =>
  iteB x61
  (bindO (X_Itoa x15) fun x65 =>
  letO (decide ((x65 : Str) = p0.now.text)) fun x69 =>
  iteB x69
  (bindO (F_strings_TrimPrefix p0.now.text [45]) fun x73 =>
  letO (x73.length : Int) fun x77 =>
  letO (decide (x77 ≤ 16)) fun x79 =>
  some x79)
  (some false))
  (some false)) fun g58 =>
  iteB g58
  (some (EventReader.mk p0.text p0.at_ (EventToken.mk 3 p0.now.at_ x15 p0.now.text) p0.r))
  (bindO (F_event_reader_fail (some p0) 6) fun _ =>
  some p0)))

/-- strings.HasPrefix -/
def F_strings_HasPrefix (p0 : Str) (p1 : Str) : Option Bool :=
  bindO (F_internal_stringslite_HasPrefix p0 p1) fun x4 =>
  some x4

def F_event_reader_advance_L1 (x14 : EventReader) : Int → Option Int := loopO fun k215 g211 =>
  bindO (letO (x14.text.length : Int) fun x256 =>
  letO (decide (g211 < x256)) fun x258 =>
  iteB x258
  (bindO (byte' x14.text g211) fun x261 =>
  bindO (F_event_nameByte x261) fun x264 =>
  some x264)
  (some false)) fun g251 =>
  iteB g251
  (letO (IntKind.i64.wrap (g211 + 1)) fun x269 =>
  k215 x269)
  (some g211)
def F_event_reader_advance_L2 (x14 : EventReader) (k470 : Unit → Option EventReader) (x478 : Int) : Int → Option EventReader := loopO fun k622 g618 =>
  letO (decide (g618 < x478)) fun x626 =>
  iteB x626
  (bindO (at' ([[60, 61], [33, 61], [62, 61], [60], [61], [62], [40], [41]] : List Str) g618) fun x662 =>
  bindO (sub' x14.text x14.at_ (x14.text.length : Int)) fun x674 =>
  bindO (F_strings_HasPrefix x674 x662) fun x677 =>
  iteB x677
  (letO (x662.length : Int) fun x683 =>
  letO (IntKind.i64.wrap (x14.at_ + x683)) fun x685 =>
  some (EventReader.mk x14.text x685 (EventToken.mk 4 x14.at_ 0 x662) x14.r))
  (letO (IntKind.i64.wrap (g618 + 1)) fun x690 =>
  k622 x690))
  (k470 ())
/-- (*orangebox/event.reader).advance -/
def F_event_reader_advance (p0 : EventReader) : Option EventReader :=
  bindO (F_event_reader_blanks p0) fun x14 =>
  letO (x14.text.length : Int) fun x35 =>
  letO (decide (x14.at_ = x35)) fun x37 =>
  iteB x37
  (some (EventReader.mk x14.text x14.at_ (EventToken.mk 0 x14.at_ 0 []) x14.r))
  (bindO (F_event_reader_advance_L1 x14 x14.at_) fun g127 =>
  letO (decide (x14.at_ < g127)) fun x296 =>
  iteB x296
  (bindO (sub' x14.text x14.at_ g127) fun x302 =>
  bindO (F_event_reader_run (EventReader.mk x14.text g127 (EventToken.mk 0 x14.at_ 0 x302) x14.r)) fun x307 =>
  some x307)
  (joinO (fun _ =>
  bindO (F_event_reader_fail (some (EventReader.mk x14.text g127 (EventToken.mk 0 x14.at_ 0 []) x14.r)) 6) fun _ =>
  some (EventReader.mk x14.text g127 (EventToken.mk 0 x14.at_ 0 []) x14.r)) fun k470 =>
  letO ([[60, 61], [33, 61], [62, 61], [60], [61], [62], [40], [41]] : List Str) fun _ =>
  letO ((([[60, 61], [33, 61], [62, 61], [60], [61], [62], [40], [41]] : List Str)).length : Int) fun x478 =>
  F_event_reader_advance_L2 x14 k470 x478 0))

/-- (*orangebox/event.reader).is -/
def F_event_reader_is (p0 : Option EventReader) (p1 : Str) : Option Bool :=
  bindO (bindO p0 fun x97 =>
  letO (decide (x97.now.kind = 1)) fun x117 =>
  iteB x117
  (bindO p0 fun x120 =>
  letO (decide ((x120.now.text : Str) = p1)) fun x140 =>
  some x140)
  (bindO p0 fun x142 =>
  letO (decide (x142.now.kind = 4)) fun x162 =>
  iteB x162
  (bindO p0 fun x165 =>
  letO (decide ((x165.now.text : Str) = p1)) fun x185 =>
  some x185)
  (some false))) fun g94 =>
  some g94

/-- (*orangebox/event.reader).take -/
def F_event_reader_take (p0 : EventReader) (p1 : Int) : Option (EventToken × EventReader) :=
  bindO (letO (decide (p0.now.kind ≠ p1)) fun x30 =>
  iteB x30
  (bindO (F_event_reader_fail (some p0) 6) fun _ =>
  some ())
  (some ())) fun _ =>
  bindO (F_event_reader_advance p0) fun x44 =>
  some (p0.now, x44)

/-- (*orangebox/event.reader).name -/
def F_event_reader_name (p0 : EventReader) : Option (Str × EventReader) :=
  bindO (F_event_reader_take p0 2) fun ⟨x15, x16⟩ =>
  some (x15.text, x16)

/-- (*orangebox/event.reader).must -/
def F_event_reader_must (p0 : EventReader) (p1 : Str) : Option EventReader :=
  bindO (bindO (F_event_reader_is (some p0) p1) fun x34 =>
  letO (!x34) fun x38 =>
  iteB x38
  (bindO (F_event_reader_fail (some p0) 6) fun _ =>
  some ())
  (some ())) fun _ =>
  bindO (F_event_reader_advance p0) fun x46 =>
  some x46

def F_slices_Index___string_string__L1 (p0 : List Str) (p1 : Str) (k108 : Unit → Option Int) (x111 : Int) : Int → Option Int := loopO fun k211 g207 =>
  letO (decide (g207 < x111)) fun x215 =>
  iteB x215
  (bindO (at' p0 g207) fun x241 =>
  letO (decide ((p1 : Str) = x241)) fun x253 =>
  iteB x253
  (some g207)
  (letO (IntKind.i64.wrap (g207 + 1)) fun x257 =>
  k211 x257))
  (k108 ())
/-- slices.Index[[]string,string] -/
def F_slices_Index___string_string_ (p0 : List Str) (p1 : Str) : Option Int :=
  joinO (fun _ =>
  some (-1)) fun k108 =>
  letO (p0.length : Int) fun x111 =>
  F_slices_Index___string_string__L1 p0 p1 k108 x111 0

/-- slices.Contains[[]string,string] -/
def F_slices_Contains___string_string_ (p0 : List Str) (p1 : Str) : Option Bool :=
  bindO (F_slices_Index___string_string_ p0 p1) fun x6 =>
  letO (decide (0 ≤ x6)) fun x10 =>
  some x10

/-- (*orangebox/event.reader).begins -/
def F_event_reader_begins (p0 : Option EventReader) : Option Bool :=
  bindO p0 fun x67 =>
  letO (decide (x67.now.kind = 2)) fun x88 =>
  iteB x88
  (some true)
  (letO (decide (x67.now.kind = 1)) fun x93 =>
  iteB x93
  (letO ([[116, 114, 117, 101], [102, 97, 108, 115, 101], [115, 116, 101, 97, 100, 121], [112, 104, 97, 115, 101], [114, 117, 108, 101], [110, 111, 116], [102, 111, 114], [119, 105, 116, 104, 105, 110], [99, 111, 117, 110, 116], [114, 105, 115, 101, 115], [115, 105, 110, 99, 101]] : List Str) fun _ =>
  bindO p0 fun x102 =>
  bindO (F_slices_Contains___string_string_ ([[116, 114, 117, 101], [102, 97, 108, 115, 101], [115, 116, 101, 97, 100, 121], [112, 104, 97, 115, 101], [114, 117, 108, 101], [110, 111, 116], [102, 111, 114], [119, 105, 116, 104, 105, 110], [99, 111, 117, 110, 116], [114, 105, 115, 101, 115], [115, 105, 110, 99, 101]] : List Str) x102.now.text) fun x123 =>
  some x123)
  (bindO (F_event_reader_is p0 [40]) fun x129 =>
  some x129))

/-- (*orangebox/event.reader).number -/
def F_event_reader_number (p0 : EventReader) : Option (Int × EventReader) :=
  bindO (F_event_reader_take p0 3) fun ⟨x15, x16⟩ =>
  some (x15.n, x16)

/-- (*orangebox/event.reader).comparison -/
def F_event_reader_comparison (p0 : EventReader) : Option (Cond × EventReader) :=
  bindO (F_event_reader_name p0) fun ⟨x20, x21⟩ =>
  bindO (F_slices_Index___string_string_ zO.l x21.now.text) fun x42 =>
  bindO (bindO (letO (decide (x21.now.kind ≠ 4)) fun x71 =>
  iteB x71
  (some true)
  (letO (decide (x42 < 1)) fun x74 =>
  some x74)) fun g68 =>
  iteB g68
  (bindO (F_event_reader_fail (some x21) 6) fun _ =>
  some ())
  (some ())) fun _ =>
  bindO (F_event_reader_advance x21) fun x83 =>
  letO (decide (x83.now.kind = 2)) fun x115 =>
  iteB x115
  (bindO (F_event_reader_name x83) fun ⟨x119, x120⟩ =>
  some (Cond.mk 4 x20 x119 x42 0 0 [], x120))
  (bindO (F_event_reader_number x83) fun ⟨x136, x137⟩ =>
  some (Cond.mk 3 x20 [] x42 x136 0 [], x137))



def F_event_reader_part_1_pdd_L1 (rfA : EventReader → Int → Option (Cond × EventReader)) (p0 : Int) (c1 : Int) : (List Cond) × Int × Str × Int × Int × Int × Int × Str × (List Str) × (List MoveT) × (List Rule) → Option ((List Cond) × Str × Int × Int × Int × Int × Str × (List Str) × (List MoveT) × (List Rule)) := loopO fun k344 ⟨g322, g324, g325, g326, g327, g328, g329, g330, g332, g335, g338⟩ =>
  letO (decide (g324 < p0)) fun x348 =>
  iteB x348
  (letO (IntKind.i64.wrap (c1 + 1)) fun x378 =>
  bindO (rfA (EventReader.mk g325 g326 (EventToken.mk g327 g328 g329 g330) (Rules.mk g332 g335 g338)) x378) fun ⟨x380, x381⟩ =>
  letO ([x380] : List Cond) fun _ =>
  bindO (app' 88 g322 ([x380] : List Cond)) fun x398 =>
  letO (IntKind.i64.wrap (g324 + 1)) fun x402 =>
  k344 (x398, x402, x381.text, x381.at_, x381.now.kind, x381.now.at_, x381.now.n, x381.now.text, x381.r.Phases, x381.r.Moves, x381.r.Rules))
  (some (g322, g325, g326, g327, g328, g329, g330, g332, g335, g338))
/-- (*orangebox/event.reader).part$1~pdd -/
def F_event_reader_part_1_pdd (rfA : EventReader → Int → Option (Cond × EventReader)) (p0 : Int) (c0p : EventReader) (c1 : Int) : Option ((List Cond) × EventReader) :=
  bindO (F_event_reader_part_1_pdd_L1 rfA p0 c1 ([], 0, c0p.text, c0p.at_, c0p.now.kind, c0p.now.at_, c0p.now.n, c0p.now.text, c0p.r.Phases, c0p.r.Moves, c0p.r.Rules)) fun ⟨g165, g167, g168, g169, g170, g171, g172, g174, g177, g180⟩ =>
  some (g165, EventReader.mk g167 g168 (EventToken.mk g169 g170 g171 g172) (Rules.mk g174 g177 g180))

/-- (*orangebox/event.reader).part -/
def F_event_reader_part_B (rfB : EventReader → Int → Option (Cond × EventReader)) (rfA : EventReader → Int → Option (Cond × EventReader)) (p0 : EventReader) (p1 : Int) : Option (Cond × EventReader) :=
  bindO (bindO (F_event_reader_begins (some p0)) fun x46 =>
  letO (!x46) fun x50 =>
  iteB x50
  (bindO (F_event_reader_fail (some p0) 6) fun _ =>
  some ())
  (some ())) fun _ =>
  bindO (letO (decide (60 ≤ p1)) fun x71 =>
  iteB x71
  (bindO (F_event_reader_fail (some p0) 3) fun _ =>
  some ())
  (some ())) fun _ =>
  letO (decide (p0.now.kind = 2)) fun x100 =>
  iteB x100
  (bindO (F_event_reader_comparison p0) fun ⟨x104, x105⟩ =>
  some (x104, x105))
  (bindO (F_event_reader_advance p0) fun x120 =>
  letO (decide ((p0.now.text : Str) = [116, 114, 117, 101])) fun x378 =>
  iteB x378
  (some (Cond.mk 1 [] [] 0 0 0 [], x120))
  (letO (decide ((p0.now.text : Str) = [102, 97, 108, 115, 101])) fun x385 =>
  iteB x385
  (some (Cond.mk 2 [] [] 0 0 0 [], x120))
  (letO (decide ((p0.now.text : Str) = [115, 116, 101, 97, 100, 121])) fun x392 =>
  iteB x392
  (none)
  (letO (decide ((p0.now.text : Str) = [112, 104, 97, 115, 101])) fun x397 =>
  iteB x397
  (bindO (F_event_reader_name x120) fun ⟨x401, x402⟩ =>
  some (Cond.mk 6 x401 [] 0 0 0 [], x402))
  (letO (decide ((p0.now.text : Str) = [114, 117, 108, 101])) fun x415 =>
  iteB x415
  (bindO (F_event_reader_name x120) fun ⟨x419, x420⟩ =>
  some (Cond.mk 7 x419 [] 0 0 0 [], x420))
  (letO (decide ((p0.now.text : Str) = [110, 111, 116])) fun x433 =>
  iteB x433
  (bindO (F_event_reader_part_1_pdd rfA 1 x120 p1) fun ⟨x437, x438⟩ =>
  some (Cond.mk 8 [] [] 0 0 0 x437, x438))
  (letO (decide ((p0.now.text : Str) = [102, 111, 114])) fun x455 =>
  iteB x455
  (bindO (F_event_reader_number x120) fun ⟨x459, x460⟩ =>
  bindO (F_event_reader_part_1_pdd rfA 1 x460 p1) fun ⟨x470, x471⟩ =>
  some (Cond.mk 11 [] [] 0 0 x459 x470, x471))
  (letO (decide ((p0.now.text : Str) = [119, 105, 116, 104, 105, 110])) fun x488 =>
  iteB x488
  (bindO (F_event_reader_number x120) fun ⟨x492, x493⟩ =>
  bindO (F_event_reader_part_1_pdd rfA 1 x493 p1) fun ⟨x503, x504⟩ =>
  some (Cond.mk 12 [] [] 0 0 x492 x503, x504))
  (letO (decide ((p0.now.text : Str) = [99, 111, 117, 110, 116])) fun x521 =>
  iteB x521
  (bindO (F_event_reader_number x120) fun ⟨x525, x526⟩ =>
  bindO (F_event_reader_must x526 [111, 102]) fun x541 =>
  bindO (F_event_reader_number x541) fun ⟨x552, x553⟩ =>
  bindO (F_event_reader_part_1_pdd rfA 1 x553 p1) fun ⟨x563, x564⟩ =>
  some (Cond.mk 13 [] [] 0 x525 x552 x563, x564))
  (letO (decide ((p0.now.text : Str) = [114, 105, 115, 101, 115])) fun x581 =>
  iteB x581
  (bindO (F_event_reader_part_1_pdd rfA 1 x120 p1) fun ⟨x585, x586⟩ =>
  some (Cond.mk 15 [] [] 0 0 0 x585, x586))
  (letO (decide ((p0.now.text : Str) = [115, 105, 110, 99, 101])) fun x603 =>
  iteB x603
  (bindO (F_event_reader_part_1_pdd rfA 2 x120 p1) fun ⟨x607, x608⟩ =>
  some (Cond.mk 14 [] [] 0 0 0 x607, x608))
  (letO (IntKind.i64.wrap (p1 + 1)) fun x625 =>
  bindO (rfB x120 x625) fun ⟨x627, x628⟩ =>
  bindO (F_event_reader_must x628 [41]) fun x645 =>
  some (x627, x645)))))))))))))

def F_event_reader_part_R (rfB : EventReader → Int → Option (Cond × EventReader)) : Nat → EventReader → Int → Option (Cond × EventReader)
  | 0 => fun _ _ => none
  | n + 1 => F_event_reader_part_B rfB (F_event_reader_part_R rfB n)
/-- (*orangebox/event.reader).part -/
def F_event_reader_part (rfB : EventReader → Int → Option (Cond × EventReader)) : EventReader → Int → Option (Cond × EventReader) := F_event_reader_part_R rfB FU

/-- (*orangebox/event.reader).cond$1$1~pdd -/
def F_event_reader_cond_1_1_pdd (rfB : EventReader → Int → Option (Cond × EventReader)) (c0p : EventReader) (c1 : Int) : Option (Cond × EventReader) :=
  bindO (F_event_reader_part rfB c0p c1) fun ⟨x24, x25⟩ =>
  some (x24, x25)

def F_event_reader_list_event_reader_cond_1_1_pa0d_L1 (rfB : EventReader → Int → Option (Cond × EventReader)) (p1 : Str) (p3c1 : Int) : (List Cond) × Str × Int × Int × Int × Int × Str × (List Str) × (List MoveT) × (List Rule) → Option ((List Cond) × Str × Int × Int × Int × Int × Str × (List Str) × (List MoveT) × (List Rule)) := loopO fun k322 ⟨g302, g304, g305, g306, g307, g308, g309, g311, g314, g317⟩ =>
  bindO (F_event_reader_is (some (EventReader.mk g304 g305 (EventToken.mk g306 g307 g308 g309) (Rules.mk g311 g314 g317))) p1) fun x337 =>
  iteB x337
  (bindO (F_event_reader_advance (EventReader.mk g304 g305 (EventToken.mk g306 g307 g308 g309) (Rules.mk g311 g314 g317))) fun x343 =>
  bindO (F_event_reader_cond_1_1_pdd rfB x343 p3c1) fun ⟨x353, x354⟩ =>
  letO ([x353] : List Cond) fun _ =>
  bindO (app' 88 g302 ([x353] : List Cond)) fun x371 =>
  k322 (x371, x354.text, x354.at_, x354.now.kind, x354.now.at_, x354.now.n, x354.now.text, x354.r.Phases, x354.r.Moves, x354.r.Rules))
  (some (g302, g304, g305, g306, g307, g308, g309, g311, g314, g317))
/-- (*orangebox/event.reader).list@(*orangebox/event.reader).cond$1$1~pa0d -/
def F_event_reader_list_event_reader_cond_1_1_pa0d (rfB : EventReader → Int → Option (Cond × EventReader)) (p0 : EventReader) (p1 : Str) (p2 : Int) (p3c1 : Int) : Option (Cond × EventReader) :=
  bindO (F_event_reader_cond_1_1_pdd rfB p0 p3c1) fun ⟨x24, x25⟩ =>
  letO ([x24] : List Cond) fun _ =>
  bindO (F_event_reader_list_event_reader_cond_1_1_pa0d_L1 rfB p1 p3c1 (([x24] : List Cond), x25.text, x25.at_, x25.now.kind, x25.now.at_, x25.now.n, x25.now.text, x25.r.Phases, x25.r.Moves, x25.r.Rules)) fun ⟨g165, g167, g168, g169, g170, g171, g172, g174, g177, g180⟩ =>
  letO (g165.length : Int) fun x402 =>
  letO (decide (x402 = 1)) fun x407 =>
  iteB x407
  (bindO (at' g165 0) fun x411 =>
  some (x411, EventReader.mk g167 g168 (EventToken.mk g169 g170 g171 g172) (Rules.mk g174 g177 g180)))
  (some (Cond.mk p2 [] [] 0 0 0 g165, EventReader.mk g167 g168 (EventToken.mk g169 g170 g171 g172) (Rules.mk g174 g177 g180)))

/-- (*orangebox/event.reader).cond$1~pdd -/
def F_event_reader_cond_1_pdd (rfB : EventReader → Int → Option (Cond × EventReader)) (c0p : EventReader) (c1 : Int) : Option (Cond × EventReader) :=
  bindO (F_event_reader_list_event_reader_cond_1_1_pa0d rfB c0p [97, 110, 100] 9 c1) fun ⟨x24, x25⟩ =>
  some (x24, x25)

def F_event_reader_list_event_reader_cond_1_pa0d_L1 (rfB : EventReader → Int → Option (Cond × EventReader)) (p1 : Str) (p3c1 : Int) : (List Cond) × Str × Int × Int × Int × Int × Str × (List Str) × (List MoveT) × (List Rule) → Option ((List Cond) × Str × Int × Int × Int × Int × Str × (List Str) × (List MoveT) × (List Rule)) := loopO fun k322 ⟨g302, g304, g305, g306, g307, g308, g309, g311, g314, g317⟩ =>
  bindO (F_event_reader_is (some (EventReader.mk g304 g305 (EventToken.mk g306 g307 g308 g309) (Rules.mk g311 g314 g317))) p1) fun x337 =>
  iteB x337
  (bindO (F_event_reader_advance (EventReader.mk g304 g305 (EventToken.mk g306 g307 g308 g309) (Rules.mk g311 g314 g317))) fun x343 =>
  bindO (F_event_reader_cond_1_pdd rfB x343 p3c1) fun ⟨x353, x354⟩ =>
  letO ([x353] : List Cond) fun _ =>
  bindO (app' 88 g302 ([x353] : List Cond)) fun x371 =>
  k322 (x371, x354.text, x354.at_, x354.now.kind, x354.now.at_, x354.now.n, x354.now.text, x354.r.Phases, x354.r.Moves, x354.r.Rules))
  (some (g302, g304, g305, g306, g307, g308, g309, g311, g314, g317))
/-- (*orangebox/event.reader).list@(*orangebox/event.reader).cond$1~pa0d -/
def F_event_reader_list_event_reader_cond_1_pa0d (rfB : EventReader → Int → Option (Cond × EventReader)) (p0 : EventReader) (p1 : Str) (p2 : Int) (p3c1 : Int) : Option (Cond × EventReader) :=
  bindO (F_event_reader_cond_1_pdd rfB p0 p3c1) fun ⟨x24, x25⟩ =>
  letO ([x24] : List Cond) fun _ =>
  bindO (F_event_reader_list_event_reader_cond_1_pa0d_L1 rfB p1 p3c1 (([x24] : List Cond), x25.text, x25.at_, x25.now.kind, x25.now.at_, x25.now.n, x25.now.text, x25.r.Phases, x25.r.Moves, x25.r.Rules)) fun ⟨g165, g167, g168, g169, g170, g171, g172, g174, g177, g180⟩ =>
  letO (g165.length : Int) fun x402 =>
  letO (decide (x402 = 1)) fun x407 =>
  iteB x407
  (bindO (at' g165 0) fun x411 =>
  some (x411, EventReader.mk g167 g168 (EventToken.mk g169 g170 g171 g172) (Rules.mk g174 g177 g180)))
  (some (Cond.mk p2 [] [] 0 0 0 g165, EventReader.mk g167 g168 (EventToken.mk g169 g170 g171 g172) (Rules.mk g174 g177 g180)))

/-- (*orangebox/event.reader).cond -/
def F_event_reader_cond_B (rfB : EventReader → Int → Option (Cond × EventReader)) (p0 : EventReader) (p1 : Int) : Option (Cond × EventReader) :=
  bindO (F_event_reader_list_event_reader_cond_1_pa0d rfB p0 [111, 114] 10 p1) fun ⟨x26, x27⟩ =>
  some (x26, x27)

def F_event_reader_cond_R : Nat → EventReader → Int → Option (Cond × EventReader)
  | 0 => fun _ _ => none
  | n + 1 => F_event_reader_cond_B (F_event_reader_cond_R n)
/-- (*orangebox/event.reader).cond -/
def F_event_reader_cond : EventReader → Int → Option (Cond × EventReader) := F_event_reader_cond_R FU

def F_event_reader_rules_L1 (x106 : EventReader) : Unit → Option (Str × Int × Int × Int × Int × Str × (List Str) × (List MoveT) × (List Rule)) := loopO fun k175 _ =>
  bindO (F_event_reader_is (some x106) [112, 104, 97, 115, 101]) fun x190 =>
  iteB x190
  (bindO (F_event_reader_advance x106) fun x196 =>
  none)
  (some (x106.text, x106.at_, x106.now.kind, x106.now.at_, x106.now.n, x106.now.text, x106.r.Phases, x106.r.Moves, x106.r.Rules))
def F_event_reader_rules_L2 : Str × Int × Int × Int × Int × Str × (List Str) × (List MoveT) × (List Rule) → Option (Str × Int × Int × Int × Int × Str × (List Str) × (List MoveT) × (List Rule)) := loopO fun k654 ⟨g636, g637, g638, g639, g640, g641, g643, g646, g649⟩ =>
  bindO (F_event_reader_is (some (EventReader.mk g636 g637 (EventToken.mk g638 g639 g640 g641) (Rules.mk g643 g646 g649))) [109, 111, 118, 101]) fun x669 =>
  iteB x669
  (bindO (F_event_reader_advance (EventReader.mk g636 g637 (EventToken.mk g638 g639 g640 g641) (Rules.mk g643 g646 g649))) fun x675 =>
  bindO (F_event_reader_name x675) fun ⟨x686, x687⟩ =>
  bindO (F_event_reader_name x687) fun ⟨x697, x698⟩ =>
  bindO (F_event_reader_must x698 [105, 102]) fun x713 =>
  bindO (F_event_reader_cond x713 0) fun ⟨x724, x725⟩ =>
  letO ([MoveT.mk x686 x697 x724] : List MoveT) fun _ =>
  bindO (app' 120 x725.r.Moves ([MoveT.mk x686 x697 x724] : List MoveT)) fun x745 =>
  k654 (x725.text, x725.at_, x725.now.kind, x725.now.at_, x725.now.n, x725.now.text, x725.r.Phases, x745, x725.r.Rules))
  (some (g636, g637, g638, g639, g640, g641, g643, g646, g649))
def F_event_reader_rules_L3 : Str × Int × Int × Int × Int × Str × (List Str) × (List MoveT) × (List Rule) → Option (Str × Int × Int × Int × Int × Str × (List Str) × (List MoveT) × (List Rule)) := loopO fun k1155 ⟨g1137, g1138, g1139, g1140, g1141, g1142, g1144, g1147, g1150⟩ =>
  bindO (F_event_reader_is (some (EventReader.mk g1137 g1138 (EventToken.mk g1139 g1140 g1141 g1142) (Rules.mk g1144 g1147 g1150))) [114, 117, 108, 101]) fun x1170 =>
  iteB x1170
  (bindO (F_event_reader_advance (EventReader.mk g1137 g1138 (EventToken.mk g1139 g1140 g1141 g1142) (Rules.mk g1144 g1147 g1150))) fun x1176 =>
  bindO (F_event_reader_name x1176) fun ⟨x1187, x1188⟩ =>
  bindO (F_event_reader_must x1188 [105, 102]) fun x1203 =>
  bindO (F_event_reader_cond x1203 0) fun ⟨x1214, x1215⟩ =>
  letO ([Rule.mk x1187 x1214] : List Rule) fun _ =>
  bindO (app' 104 x1215.r.Rules ([Rule.mk x1187 x1214] : List Rule)) fun x1235 =>
  k1155 (x1215.text, x1215.at_, x1215.now.kind, x1215.now.at_, x1215.now.n, x1215.now.text, x1215.r.Phases, x1215.r.Moves, x1235))
  (some (g1137, g1138, g1139, g1140, g1141, g1142, g1144, g1147, g1150))
/-- (*orangebox/event.reader).rules -/
def F_event_reader_rules (p0 : EventReader) : Option EventReader :=
  bindO (bindO (F_event_reader_advance p0) fun x106 =>
  F_event_reader_rules_L1 x106 ()) fun ⟨g87, g88, g89, g90, g91, g92, g94, g97, g100⟩ =>
  bindO (F_event_reader_rules_L2 (g87, g88, g89, g90, g91, g92, g94, g97, g100)) fun ⟨g415, g416, g417, g418, g419, g420, g422, g425, g428⟩ =>
  bindO (F_event_reader_rules_L3 (g415, g416, g417, g418, g419, g420, g422, g425, g428)) fun ⟨g938, g939, g940, g941, g942, g943, g945, g948, g951⟩ =>
  letO (decide (g940 ≠ 0)) fun x1242 =>
  iteB x1242
  (bindO (F_event_reader_fail (some (EventReader.mk g938 g939 (EventToken.mk g940 g941 g942 g943) (Rules.mk g945 g948 g951))) 6) fun _ =>
  some (EventReader.mk g938 g939 (EventToken.mk g940 g941 g942 g943) (Rules.mk g945 g948 g951)))
  (some (EventReader.mk g938 g939 (EventToken.mk g940 g941 g942 g943) (Rules.mk g945 g948 g951)))

/-- event.caught of a reader's rules: where they end without a fault. -/
def F_caught (p0 : EventReader) : Option (EventFault × EventReader) := bindO (F_event_reader_rules p0) fun x => some (⟨0, 0⟩, x)

/-- orangebox/event.CheckTracks$1 -/
def F_event_CheckTracks_1 (p0 : Track) (c0 : Track) : Option Bool :=
  letO (decide ((p0.Name : Str) = c0.Name)) fun x12 =>
  some x12

def F_slices_IndexFunc___api_Track_api_Track__event_CheckTracks_1_L1 (p0 : List Track) (p1c0 : Track) (k132 : Unit → Option Int) (x135 : Int) : Int → Option Int := loopO fun k255 g251 =>
  letO (decide (g251 < x135)) fun x259 =>
  iteB x259
  (bindO (at' p0 g251) fun x290 =>
  bindO (F_event_CheckTracks_1 x290 p1c0) fun x305 =>
  iteB x305
  (some g251)
  (letO (IntKind.i64.wrap (g251 + 1)) fun x311 =>
  k255 x311))
  (k132 ())
/-- slices.IndexFunc[[]orangebox/api.Track,orangebox/api.Track]@orangebox/event.CheckTracks$1 -/
def F_slices_IndexFunc___api_Track_api_Track__event_CheckTracks_1 (p0 : List Track) (p1c0 : Track) : Option Int :=
  joinO (fun _ =>
  some (-1)) fun k132 =>
  letO (p0.length : Int) fun x135 =>
  F_slices_IndexFunc___api_Track_api_Track__event_CheckTracks_1_L1 p0 p1c0 k132 x135 0

/-- slices.ContainsFunc[[]orangebox/api.Track,orangebox/api.Track]@orangebox/event.CheckTracks$1 -/
def F_slices_ContainsFunc___api_Track_api_Track__event_CheckTracks_1 (p0 : List Track) (p1c0 : Track) : Option Bool :=
  bindO (F_slices_IndexFunc___api_Track_api_Track__event_CheckTracks_1 p0 p1c0) fun x9 =>
  letO (decide (0 ≤ x9)) fun x13 =>
  some x13

/-- orangebox/series.within -/
def F_series_within (p0 : Int) (p1 : Int) (p2 : Int) : Option Bool :=
  bindO (letO (decide (p1 ≤ p0)) fun x10 =>
  iteB x10
  (letO (decide (p0 ≤ p2)) fun x13 =>
  some x13)
  (some false)) fun g7 =>
  some g7

def F_series_check_L1 (p0 : Series) (k413 : Unit → Option (Int × Int)) (x416 : Int) : Int → Option (Int × Int) := loopO fun k776 g772 =>
  letO (decide (g772 < x416)) fun x780 =>
  iteB x780
  (bindO (at' p0.Samples g772) fun x870 =>
  bindO (bindO (F_series_within x870.At 0 1099511627776) fun x913 =>
  letO (!x913) fun x917 =>
  iteB x917
  (some true)
  (bindO (F_series_within x870.N (-1125899906842624) 1125899906842624) fun x921 =>
  letO (!x921) fun x925 =>
  iteB x925
  (some true)
  (bindO (F_series_within x870.Mark 0 4) fun x929 =>
  letO (!x929) fun x933 =>
  some x933))) fun g909 =>
  iteB g909
  (some (g772, 9))
  (bindO (letO (decide (x870.N ≠ 0)) fun x945 =>
  iteB x945
  (letO (decide (x870.Mark ≤ 1)) fun x948 =>
  some x948)
  (some false)) fun g942 =>
  iteB g942
  (some (g772, 2))
  (bindO (letO (decide (0 < g772)) fun x980 =>
  iteB x980
  (letO (IntKind.i64.wrap (g772 - 1)) fun x983 =>
  bindO (at' p0.Samples x983) fun x985 =>
  letO (decide (x870.At ≤ x985.At)) fun x997 =>
  some x997)
  (some false)) fun g975 =>
  iteB g975
  (some (g772, 10))
  (letO (IntKind.i64.wrap (g772 + 1)) fun x1003 =>
  k776 x1003))))
  (k413 ())
/-- orangebox/series.check -/
def F_series_check (p0 : Series) : Option (Int × Int) :=
  bindO (F_series_within p0.Den 1 1000000) fun x20 =>
  letO (!x20) fun x24 =>
  iteB x24
  (some ((-1), 9))
  (letO (p0.Samples.length : Int) fun x40 =>
  letO (decide (20000 < x40)) fun x45 =>
  iteB x45
  (some ((-1), 3))
  (joinO (fun _ =>
  some ((-1), 0)) fun k413 =>
  letO (p0.Samples.length : Int) fun x416 =>
  F_series_check_L1 p0 k413 x416 0))

/-- orangebox/series.Check -/
def F_series_Check (p0 : Series) : Option Int :=
  bindO (F_series_check p0) fun ⟨x9, x10⟩ =>
  some x10

def F_event_CheckTracks_L1 (p0 : List Track) (k453 : Unit → Option Int) (x456 : Int) : Int → Option Int := loopO fun k880 g876 =>
  letO (decide (g876 < x456)) fun x884 =>
  iteB x884
  (bindO (at' p0 g876) fun x990 =>
  bindO (F_event_isName x990.Name) fun x1022 =>
  letO (!x1022) fun x1026 =>
  iteB x1026
  (some 8)
  (bindO (sub' p0 0 g876) fun x1044 =>
  bindO (F_slices_ContainsFunc___api_Track_api_Track__event_CheckTracks_1 x1044 x990) fun x1049 =>
  iteB x1049
  (some 5)
  (bindO (F_series_Check x990.Series) fun x1069 =>
  letO (decide (x1069 ≠ 0)) fun x1074 =>
  iteB x1074
  (some x1069)
  (bindO (F_event_within x990.Long 0 1099511627776) fun x1080 =>
  letO (!x1080) fun x1084 =>
  iteB x1084
  (some 9)
  (letO (IntKind.i64.wrap (g876 + 1)) fun x1088 =>
  k880 x1088)))))
  (k453 ())
/-- orangebox/event.CheckTracks -/
def F_event_CheckTracks (p0 : List Track) : Option Int :=
  letO (p0.length : Int) fun x16 =>
  letO (decide (50 < x16)) fun x21 =>
  iteB x21
  (some 3)
  (joinO (fun _ =>
  some 0) fun k453 =>
  letO (p0.length : Int) fun x456 =>
  F_event_CheckTracks_L1 p0 k453 x456 0)

/-- orangebox/orangeboxref6.words -/
def F_ref6_words : Option (List Str) :=
  letO ([[112, 104, 97, 115, 101], [109, 111, 118, 101], [114, 117, 108, 101], [105, 102], [111, 114], [97, 110, 100], [116, 114, 117, 101], [102, 97, 108, 115, 101], [115, 116, 101, 97, 100, 121], [110, 111, 116], [102, 111, 114], [119, 105, 116, 104, 105, 110], [99, 111, 117, 110, 116], [111, 102], [114, 105, 115, 101, 115], [115, 105, 110, 99, 101]] : List Str) fun _ =>
  some ([[112, 104, 97, 115, 101], [109, 111, 118, 101], [114, 117, 108, 101], [105, 102], [111, 114], [97, 110, 100], [116, 114, 117, 101], [102, 97, 108, 115, 101], [115, 116, 101, 97, 100, 121], [110, 111, 116], [102, 111, 114], [119, 105, 116, 104, 105, 110], [99, 111, 117, 110, 116], [111, 102], [114, 105, 115, 101, 115], [115, 105, 110, 99, 101]] : List Str)

def F_ref6_Reserved_L1 (p0 : Str) (x3 : List Str) (k126 : Unit → Option Bool) : Int → Option Bool := loopO fun k242 g238 =>
  letO (x3.length : Int) fun x256 =>
  letO (decide (g238 < x256)) fun x261 =>
  iteB x261
  (bindO (at' x3 g238) fun x282 =>
  letO (decide ((x282 : Str) = p0)) fun x293 =>
  iteB x293
  (some true)
  (letO (IntKind.i64.wrap (g238 + 1)) fun x297 =>
  k242 x297))
  (k126 ())
/-- orangebox/orangeboxref6.Reserved -/
def F_ref6_Reserved (p0 : Str) : Option Bool :=
  bindO (F_ref6_words) fun x3 =>
  joinO (fun _ =>
  some false) fun k126 =>
  F_ref6_Reserved_L1 p0 x3 k126 0

def F_ref6_IsName_L1 (p0 : Str) (k235 : Unit → Option Bool) : Int → Option Bool := loopO fun k467 g463 =>
  letO (p0.length : Int) fun x478 =>
  letO (decide (g463 < x478)) fun x480 =>
  iteB x480
  (bindO (byte' p0 g463) fun x533 =>
  bindO (letO (decide (97 ≤ x533)) fun x578 =>
  iteB x578
  (letO (decide (x533 ≤ 122)) fun x581 =>
  iteB x581
  (some false)
  (letO (decide (0 < g463)) fun x584 =>
  iteB x584
  (letO (decide (48 ≤ x533)) fun x587 =>
  iteB x587
  (letO (decide (x533 ≤ 57)) fun x590 =>
  iteB x590
  (some false)
  (letO (decide (x533 = 45)) fun x593 =>
  letO (!x593) fun x595 =>
  some x595))
  (letO (decide (x533 = 45)) fun x597 =>
  letO (!x597) fun x599 =>
  some x599))
  (some true)))
  (letO (decide (0 < g463)) fun x601 =>
  iteB x601
  (letO (decide (48 ≤ x533)) fun x604 =>
  iteB x604
  (letO (decide (x533 ≤ 57)) fun x607 =>
  iteB x607
  (some false)
  (letO (decide (x533 = 45)) fun x610 =>
  letO (!x610) fun x612 =>
  some x612))
  (letO (decide (x533 = 45)) fun x614 =>
  letO (!x614) fun x616 =>
  some x616))
  (some true))) fun g575 =>
  iteB g575
  (some false)
  (letO (IntKind.i64.wrap (g463 + 1)) fun x620 =>
  k467 x620))
  (k235 ())
/-- orangebox/orangeboxref6.IsName -/
def F_ref6_IsName (p0 : Str) : Option Bool :=
  joinO (fun _ =>
  bindO (letO (decide ((p0 : Str) ≠ [])) fun x640 =>
  iteB x640
  (letO (p0.length : Int) fun x643 =>
  letO (decide (x643 ≤ 30)) fun x645 =>
  iteB x645
  (bindO (F_ref6_Reserved p0) fun x649 =>
  letO (!x649) fun x653 =>
  some x653)
  (some false))
  (some false)) fun g637 =>
  some g637) fun k235 =>
  F_ref6_IsName_L1 p0 k235 0

/-- orangebox/orangeboxref5.outside -/
def F_ref5_outside (p0 : Int) (p1 : Int) (p2 : Int) : Option Bool :=
  bindO (letO (decide (p0 < p1)) fun x10 =>
  iteB x10
  (some true)
  (letO (decide (p2 < p0)) fun x13 =>
  some x13)) fun g7 =>
  some g7

/-- orangebox/orangeboxref5.numbered -/
def F_ref5_numbered (p0 : Int) : Option Bool :=
  letO (decide (2 ≤ p0)) fun x3 =>
  some x3

/-- orangebox/orangeboxref5.sampleFault -/
def F_ref5_sampleFault (p0 : Sample) : Option Int :=
  bindO (bindO (F_ref5_outside p0.At 0 1099511627776) fun x49 =>
  iteB x49
  (some true)
  (bindO (F_ref5_outside p0.N (-1125899906842624) 1125899906842624) fun x55 =>
  iteB x55
  (some true)
  (bindO (F_ref5_outside p0.Mark 0 4) fun x61 =>
  some x61))) fun g45 =>
  iteB g45
  (some 9)
  (bindO (letO (decide (p0.N ≠ 0)) fun x96 =>
  iteB x96
  (bindO (F_ref5_numbered p0.Mark) fun x100 =>
  letO (!x100) fun x104 =>
  some x104)
  (some false)) fun g93 =>
  iteB g93
  (some 2)
  (some 0))

def F_ref5_fault_L1 (p0 : Series) (k446 : Unit → Option (Int × Int)) : Int → Option (Int × Int) := loopO fun k846 g842 =>
  letO (p0.Samples.length : Int) fun x860 =>
  letO (decide (g842 < x860)) fun x865 =>
  iteB x865
  (bindO (at' p0.Samples g842) fun x981 =>
  bindO (F_ref5_sampleFault x981) fun x994 =>
  letO (decide (x994 ≠ 0)) fun x999 =>
  iteB x999
  (some (g842, x994))
  (bindO (letO (decide (0 < g842)) fun x1043 =>
  iteB x1043
  (bindO (at' p0.Samples g842) fun x1046 =>
  letO (IntKind.i64.wrap (g842 - 1)) fun x1058 =>
  bindO (at' p0.Samples x1058) fun x1060 =>
  letO (decide (x1046.At ≤ x1060.At)) fun x1072 =>
  some x1072)
  (some false)) fun g1038 =>
  iteB g1038
  (some (g842, 10))
  (letO (IntKind.i64.wrap (g842 + 1)) fun x1078 =>
  k846 x1078)))
  (k446 ())
/-- orangebox/orangeboxref5.fault -/
def F_ref5_fault (p0 : Series) : Option (Int × Int) :=
  bindO (F_ref5_outside p0.Den 1 1000000) fun x18 =>
  iteB x18
  (some ((-1), 9))
  (letO (p0.Samples.length : Int) fun x36 =>
  letO (decide (20000 < x36)) fun x41 =>
  iteB x41
  (some ((-1), 3))
  (joinO (fun _ =>
  some ((-1), 0)) fun k446 =>
  F_ref5_fault_L1 p0 k446 0))

/-- orangebox/orangeboxref5.Check -/
def F_ref5_Check (p0 : Series) : Option Int :=
  bindO (F_ref5_fault p0) fun ⟨x9, x10⟩ =>
  some x10

/-- orangebox/orangeboxref6.outside -/
def F_ref6_outside (p0 : Int) (p1 : Int) (p2 : Int) : Option Bool :=
  bindO (letO (decide (p0 < p1)) fun x10 =>
  iteB x10
  (some true)
  (letO (decide (p2 < p0)) fun x13 =>
  some x13)) fun g7 =>
  some g7

def F_ref6_CheckTracks_L2 (p0 : List Track) (g4118 : Int) (k4881 : Unit → Option Int) : Int → Option Int := loopO fun k5065 g5061 =>
  letO (decide (g5061 < g4118)) fun x5074 =>
  iteB x5074
  (bindO (at' p0 g5061) fun x5119 =>
  bindO (at' p0 g4118) fun x5134 =>
  letO (decide ((x5119.Name : Str) = x5134.Name)) fun x5149 =>
  iteB x5149
  (some 5)
  (letO (IntKind.i64.wrap (g5061 + 1)) fun x5154 =>
  k5065 x5154))
  (k4881 ())
def F_ref6_CheckTracks_L1 (p0 : List Track) (k2074 : Unit → Option Int) : Int → Option Int := loopO fun k4122 g4118 =>
  letO (p0.length : Int) fun x4136 =>
  letO (decide (g4118 < x4136)) fun x4141 =>
  iteB x4141
  (joinO (fun _ =>
  letO (IntKind.i64.wrap (g4118 + 1)) fun x5232 =>
  k4122 x5232) fun k4643 =>
  bindO (at' p0 g4118) fun x4672 =>
  bindO (F_ref6_IsName x4672.Name) fun x4688 =>
  letO (!x4688) fun x4692 =>
  iteB x4692
  (some 8)
  (joinO (fun _ =>
  bindO (at' p0 g4118) fun x5184 =>
  bindO (F_ref5_Check x5184.Series) fun x5200 =>
  letO (decide (x5200 ≠ 0)) fun x5205 =>
  iteB x5205
  (some x5200)
  (bindO (at' p0 g4118) fun x5210 =>
  bindO (F_ref6_outside x5210.Long 0 1099511627776) fun x5226 =>
  iteB x5226
  (some 9)
  (k4643 ()))) fun k4881 =>
  F_ref6_CheckTracks_L2 p0 g4118 k4881 0))
  (k2074 ())
/-- orangebox/orangeboxref6.CheckTracks -/
def F_ref6_CheckTracks (p0 : List Track) : Option Int :=
  letO (p0.length : Int) fun x16 =>
  letO (decide (50 < x16)) fun x21 =>
  iteB x21
  (some 3)
  (joinO (fun _ =>
  some 0) fun k2074 =>
  F_ref6_CheckTracks_L1 p0 k2074 0)

/-- orangebox/series.latest$1 -/
def F_series_latest_1 (p0 : Sample) (p1 : Int) : Option Int :=
  letO (IntKind.i64.wrap (p0.At - p1)) fun x6 =>
  some x6

def F_slices_BinarySearchFunc___api_Sample_api_Sample_int__series_latest_1_L1 (p0 : List Sample) (p1 : Int) : Int × Int → Option Int := loopO fun k193 ⟨g188, g189⟩ =>
  letO (decide (g188 < g189)) fun x202 =>
  iteB x202
  (letO (IntKind.i64.wrap (g188 + g189)) fun x206 =>
  letO (IntKind.u64.wrap x206) fun x208 =>
  bindO (shr' .u64 x208 1) fun x210 =>
  letO (IntKind.i64.wrap x210) fun x212 =>
  bindO (at' p0 x212) fun x215 =>
  bindO (F_series_latest_1 x215 p1) fun x228 =>
  letO (decide (x228 < 0)) fun x232 =>
  iteB x232
  (letO (IntKind.i64.wrap (x212 + 1)) fun x235 =>
  k193 (x235, g189))
  (k193 (g188, x212)))
  (some g188)
/-- slices.BinarySearchFunc[[]orangebox/api.Sample,orangebox/api.Sample,int]@orangebox/series.latest$1 -/
def F_slices_BinarySearchFunc___api_Sample_api_Sample_int__series_latest_1 (p0 : List Sample) (p1 : Int) : Option (Int × Bool) :=
  letO (p0.length : Int) fun x5 =>
  bindO (F_slices_BinarySearchFunc___api_Sample_api_Sample_int__series_latest_1_L1 p0 p1 (0, x5)) fun g101 =>
  bindO (letO (decide (g101 < x5)) fun x262 =>
  iteB x262
  (bindO (at' p0 g101) fun x265 =>
  bindO (F_series_latest_1 x265 p1) fun x278 =>
  letO (decide (x278 = 0)) fun x282 =>
  some x282)
  (some false)) fun g259 =>
  some (g101, g259)

/-- orangebox/series.latest -/
def F_series_latest (p0 : Series) (p1 : Int) : Option Int :=
  bindO (F_slices_BinarySearchFunc___api_Sample_api_Sample_int__series_latest_1 p0.Samples p1) fun ⟨x9, x10⟩ =>
  iteB x10
  (some x9)
  (letO (IntKind.i64.wrap (x9 - 1)) fun x22 =>
  some x22)

/-- orangebox/series.solid -/
def F_series_solid (p0 : Sample) : Option Bool :=
  letO (decide (3 ≤ p0.Mark)) fun x6 =>
  some x6

/-- orangebox/series.hold -/
def F_series_hold (p0 : Series) (p1 : Int) (p2 : Int) : Option (Sample × Bool) :=
  bindO (F_series_latest p0 p1) fun x12 =>
  bindO (letO (decide (x12 < 0)) fun x104 =>
  iteB x104
  (some true)
  (bindO (at' p0.Samples x12) fun x107 =>
  bindO (F_series_solid x107) fun x120 =>
  letO (!x120) fun x124 =>
  iteB x124
  (some true)
  (bindO (at' p0.Samples x12) fun x127 =>
  letO (IntKind.i64.wrap (p1 - x127.At)) fun x139 =>
  letO (decide (p2 < x139)) fun x141 =>
  some x141))) fun g101 =>
  iteB g101
  (some (Sample.mk 0 0 0, false))
  (bindO (at' p0.Samples x12) fun x147 =>
  some (x147, true))

/-- orangebox/series.Held -/
def F_series_Held (p0 : Series) (p1 : Int) (p2 : Int) : Option (Sample × Bool) :=
  bindO (F_series_hold p0 p1 p2) fun ⟨x12, x13⟩ =>
  some (x12, x13)

def F_event_inputs_L1 (p0 : List Track) (p1 : Int) (x233 : Int) : (List ToldT) × Int → Option (List ToldT) := loopO fun k454 ⟨g447, g449⟩ =>
  letO (decide (g449 < x233)) fun x458 =>
  iteB x458
  (bindO (at' p0 g449) fun x511 =>
  letO (IntKind.i64.wrap (64 * p1)) fun x531 =>
  letO (IntKind.i64.wrap (x531 + 64)) fun x533 =>
  letO (IntKind.i64.wrap (x533 - 1)) fun x535 =>
  bindO (F_series_Held x511.Series x535 x511.Long) fun ⟨x538, x539⟩ =>
  letO ([ToldT.mk x538.N x539] : List ToldT) fun _ =>
  bindO (app' 16 g447 ([ToldT.mk x538.N x539] : List ToldT)) fun x552 =>
  letO (IntKind.i64.wrap (g449 + 1)) fun x556 =>
  k454 (x552, x556))
  (some g447)
/-- orangebox/event.inputs -/
def F_event_inputs (p0 : List Track) (p1 : Int) : Option (List ToldT) :=
  bindO (letO (p0.length : Int) fun x233 =>
  F_event_inputs_L1 p0 p1 x233 ([], 0)) fun g228 =>
  some g228

/-- orangebox/event.Inputs -/
def F_event_Inputs (p0 : List Track) (p1 : Int) : Option ((List ToldT) × Int) :=
  bindO (F_event_CheckTracks p0) fun x19 =>
  letO (decide (x19 ≠ 0)) fun x24 =>
  iteB x24
  (some ([], x19))
  (bindO (F_event_within p1 0 4194303) fun x42 =>
  letO (!x42) fun x46 =>
  iteB x46
  (some ([], 9))
  (bindO (F_event_inputs p0 p1) fun x52 =>
  some (x52, 0)))

/-- internal/strconv.AppendInt -/
def F_internal_strconv_AppendInt (p0 : List Int) (p1 : Int) (p2 : Int) : Option (List Int) :=
  letO (IntKind.u64.wrap p1) fun x7 =>
  bindO (letO (decide (p1 < 0)) fun x32 =>
  iteB x32
  (letO ([45] : List Int) fun _ =>
  bindO (app' 1 p0 ([45] : List Int)) fun x41 =>
  letO (IntKind.u64.wrap (-x7)) fun x45 =>
  some (x41, x45))
  (some (p0, x7))) fun ⟨g25, g27⟩ =>
  bindO (X_AppendUint g25 g27 p2) fun x48 =>
  some x48

/-- strconv.AppendInt -/
def F_strconv_AppendInt (p0 : List Int) (p1 : Int) (p2 : Int) : Option (List Int) :=
  bindO (F_internal_strconv_AppendInt p0 p1 p2) fun x7 =>
  some x7

/-- (*orangebox/orangeboxref0.Ink).Int -/
def F_ref0_Ink_Int (p0 : Orangeboxref0Ink) (p1 : Int) : Option Orangeboxref0Ink :=
  bindO (F_strconv_AppendInt p0.out p1 10) fun x8 =>
  letO ([32] : List Int) fun _ =>
  bindO (app' 1 x8 ([32] : List Int)) fun x20 =>
  some (Orangeboxref0Ink.mk x20)

/-- internal/strconv.AppendBool -/
def F_internal_strconv_AppendBool (p0 : List Int) (p1 : Bool) : Option (List Int) :=
  iteB p1
  (bindO (app' 1 p0 (nums [116, 114, 117, 101])) fun x16 =>
  some x16)
  (bindO (app' 1 p0 (nums [102, 97, 108, 115, 101])) fun x21 =>
  some x21)

/-- strconv.AppendBool -/
def F_strconv_AppendBool (p0 : List Int) (p1 : Bool) : Option (List Int) :=
  bindO (F_internal_strconv_AppendBool p0 p1) fun x6 =>
  some x6

/-- (*orangebox/orangeboxref0.Ink).Bool -/
def F_ref0_Ink_Bool (p0 : Orangeboxref0Ink) (p1 : Bool) : Option Orangeboxref0Ink :=
  bindO (F_strconv_AppendBool p0.out p1) fun x6 =>
  some (Orangeboxref0Ink.mk x6)

def F_ref0_Ink_Inputs_L1 (p1 : List ToldT) : Int × (List Int) → Option Orangeboxref0Ink := loopO fun k225 ⟨g218, g220⟩ =>
  letO (p1.length : Int) fun x239 =>
  letO (decide (g218 < x239)) fun x244 =>
  iteB x244
  (bindO (at' p1 g218) fun x286 =>
  bindO (F_ref0_Ink_Int (Orangeboxref0Ink.mk g220) x286.N) fun x298 =>
  bindO (at' p1 g218) fun x304 =>
  bindO (F_ref0_Ink_Bool x298 x304.Known) fun x316 =>
  letO (IntKind.i64.wrap (g218 + 1)) fun x322 =>
  k225 (x322, x316.out))
  (some (Orangeboxref0Ink.mk g220))
/-- (*orangebox/orangeboxref0.Ink).Inputs -/
def F_ref0_Ink_Inputs (p0 : Orangeboxref0Ink) (p1 : List ToldT) : Option Orangeboxref0Ink :=
  letO (p1.length : Int) fun x10 =>
  bindO (F_ref0_Ink_Int p0 x10) fun x15 =>
  F_ref0_Ink_Inputs_L1 p1 (0, x15.out)

/-- (*orangebox/orangeboxref0.Ink).Errno -/
def F_ref0_Ink_Errno (p0 : Orangeboxref0Ink) (p1 : Int) : Option Orangeboxref0Ink :=
  bindO (F_ref0_Ink_Int p0 p1) fun x7 =>
  some x7

/-- (*orangebox/orangeboxref0.Ink).Told -/
def F_ref0_Ink_Told (p0 : Option Orangeboxref0Ink) : Option Str :=
  bindO p0 fun x5 =>
  letO (str' x5.out) fun x19 =>
  some x19

/-- orangebox/orangeboxlaw6.inputs -/
def F_law6_inputs (p0 : List ToldT) (p1 : Int) : Option Str :=
  bindO (F_ref0_Ink_Inputs (Orangeboxref0Ink.mk []) p0) fun x11 =>
  bindO (F_ref0_Ink_Errno x11 p1) fun x18 =>
  bindO (F_ref0_Ink_Told (some x18)) fun x27 =>
  some x27

/-- orangebox/orangeboxref5.solid -/
def F_ref5_solid (p0 : Int) : Option Bool :=
  letO (decide (3 ≤ p0)) fun x3 =>
  some x3

def F_ref5_Held_L1 (p0 : Series) (p1 : Int) : Int × Int → Option Int := loopO fun k165 ⟨g160, g161⟩ =>
  letO (decide (g160 < g161)) fun x174 =>
  iteB x174
  (letO (IntKind.i64.wrap (g160 + g161)) fun x178 =>
  bindO (quo' .i64 x178 2) fun x180 =>
  bindO (at' p0.Samples x180) fun x183 =>
  letO (decide (x183.At ≤ p1)) fun x195 =>
  iteB x195
  (letO (IntKind.i64.wrap (x180 + 1)) fun x198 =>
  k165 (x198, g161))
  (k165 (g160, x180)))
  (some g160)
/-- orangebox/orangeboxref5.Held -/
def F_ref5_Held (p0 : Series) (p1 : Int) (p2 : Int) : Option (Sample × Bool) :=
  letO (p0.Samples.length : Int) fun x13 =>
  bindO (F_ref5_Held_L1 p0 p1 (0, x13)) fun g91 =>
  letO (decide (g91 = 0)) fun x208 =>
  iteB x208
  (some (Sample.mk 0 0 0, false))
  (letO (IntKind.i64.wrap (g91 - 1)) fun x214 =>
  bindO (at' p0.Samples x214) fun x216 =>
  bindO (bindO (F_ref5_solid x216.Mark) fun x267 =>
  letO (!x267) fun x271 =>
  iteB x271
  (some true)
  (letO (IntKind.i64.wrap (p1 - x216.At)) fun x274 =>
  letO (decide (p2 < x274)) fun x276 =>
  some x276)) fun g263 =>
  iteB g263
  (some (Sample.mk 0 0 0, false))
  (some (x216, true)))

def F_ref6_inputs_L1 (p0 : List Track) (p1 : Int) : (List ToldT) × Int → Option (List ToldT) := loopO fun k584 ⟨g577, g579⟩ =>
  letO (p0.length : Int) fun x598 =>
  letO (decide (g579 < x598)) fun x603 =>
  iteB x603
  (bindO (at' p0 g579) fun x667 =>
  letO (IntKind.i64.wrap (64 * p1)) fun x682 =>
  letO (IntKind.i64.wrap (x682 + 64)) fun x684 =>
  letO (IntKind.i64.wrap (x684 - 1)) fun x686 =>
  bindO (at' p0 g579) fun x688 =>
  bindO (F_ref5_Held x667.Series x686 x688.Long) fun ⟨x704, x705⟩ =>
  letO ([ToldT.mk x704.N x705] : List ToldT) fun _ =>
  bindO (app' 16 g577 ([ToldT.mk x704.N x705] : List ToldT)) fun x717 =>
  letO (IntKind.i64.wrap (g579 + 1)) fun x721 =>
  k584 (x717, x721))
  (some g577)
/-- orangebox/orangeboxref6.inputs -/
def F_ref6_inputs (p0 : List Track) (p1 : Int) : Option (List ToldT) :=
  bindO (F_ref6_inputs_L1 p0 p1 ([], 0)) fun g293 =>
  some g293

/-- orangebox/orangeboxref6.Inputs -/
def F_ref6_Inputs (p0 : List Track) (p1 : Int) : Option ((List ToldT) × Int) :=
  bindO (F_ref6_CheckTracks p0) fun x19 =>
  letO (decide (x19 ≠ 0)) fun x24 =>
  iteB x24
  (some ([], x19))
  (bindO (F_ref6_outside p1 0 4194303) fun x40 =>
  iteB x40
  (some ([], 9))
  (bindO (F_ref6_inputs p0 p1) fun x48 =>
  some (x48, 0)))


def F_event_small_B_L1 (rfC : Cond → Int → Int → Option (Bool × Int)) (p0 : Cond) (p1 : Int) (k201 : Int → Option (Bool × Int)) (x204 : Int) : Int × Int → Option (Bool × Int) := loopO fun k362 ⟨g357, g358⟩ =>
  letO (decide (g357 < x204)) fun x366 =>
  iteB x366
  (bindO (at' p0.Kids g357) fun x405 =>
  letO (IntKind.i64.wrap (p1 - 1)) fun x425 =>
  bindO (rfC x405 x425 g358) fun ⟨x427, x428⟩ =>
  letO (!x427) fun x432 =>
  iteB x432
  (some (false, x428))
  (letO (IntKind.i64.wrap (g357 + 1)) fun x436 =>
  k362 (x436, x428)))
  (k201 g358)
/-- orangebox/event.small -/
def F_event_small_B (rfC : Cond → Int → Int → Option (Bool × Int)) (p0 : Cond) (p1 : Int) (p2 : Int) : Option (Bool × Int) :=
  letO (IntKind.i64.wrap (p2 + 1)) fun x10 =>
  bindO (letO (decide (p1 = 0)) fun x32 =>
  iteB x32
  (some true)
  (letO (decide (200 < x10)) fun x35 =>
  some x35)) fun g29 =>
  iteB g29
  (some (false, x10))
  (joinO (fun g199 =>
  some (true, g199)) fun k201 =>
  letO (p0.Kids.length : Int) fun x204 =>
  F_event_small_B_L1 rfC p0 p1 k201 x204 (0, x10))

def F_event_small_R : Nat → Cond → Int → Int → Option (Bool × Int)
  | 0 => fun _ _ _ => none
  | n + 1 => F_event_small_B (F_event_small_R n)
/-- orangebox/event.small -/
def F_event_small : Cond → Int → Int → Option (Bool × Int) := F_event_small_R FU

/-- orangebox/event.fieldsOf -/
def F_event_fieldsOf (p0 : Int) : Option (EventFields × Bool) :=
  bindO (letO (decide (p0 = 1)) fun x108 =>
  iteB x108
  (some x108)
  (letO (decide (p0 = 2)) fun x111 =>
  some x111)) fun g104 =>
  iteB g104
  (some (EventFields.mk false false false false false 0 0, true))
  (letO (decide (p0 = 3)) fun x117 =>
  iteB x117
  (some (EventFields.mk true false true true false 0 0, true))
  (letO (decide (p0 = 4)) fun x123 =>
  iteB x123
  (some (EventFields.mk true true true false false 0 0, true))
  (letO (decide (p0 = 5)) fun x129 =>
  iteB x129
  (some (EventFields.mk true false false true true 0 0, true))
  (bindO (letO (decide (p0 = 6)) fun x144 =>
  iteB x144
  (some x144)
  (letO (decide (p0 = 7)) fun x147 =>
  some x147)) fun g140 =>
  iteB g140
  (some (EventFields.mk true false false false false 0 0, true))
  (bindO (letO (decide (p0 = 8)) fun x162 =>
  iteB x162
  (some x162)
  (letO (decide (p0 = 15)) fun x165 =>
  some x165)) fun g158 =>
  iteB g158
  (some (EventFields.mk false false false false false 1 1, true))
  (bindO (letO (decide (p0 = 9)) fun x180 =>
  iteB x180
  (some x180)
  (letO (decide (p0 = 10)) fun x183 =>
  some x183)) fun g176 =>
  iteB g176
  (some (EventFields.mk false false false false false 2 200, true))
  (bindO (letO (decide (p0 = 11)) fun x198 =>
  iteB x198
  (some x198)
  (letO (decide (p0 = 12)) fun x201 =>
  some x201)) fun g194 =>
  iteB g194
  (some (EventFields.mk false false false false true 1 1, true))
  (letO (decide (p0 = 13)) fun x207 =>
  iteB x207
  (some (EventFields.mk false false false true true 1 1, true))
  (letO (decide (p0 = 14)) fun x213 =>
  iteB x213
  (some (EventFields.mk false false false false false 2 2, true))
  (some (EventFields.mk false false false false false 0 0, false)))))))))))

/-- orangebox/event.checkOne -/
def F_event_checkOne (p0 : Cond) : Option Int :=
  bindO (F_event_fieldsOf p0.Kind) fun ⟨x9, x10⟩ =>
  letO (!x10) fun x25 =>
  iteB x25
  (some 7)
  (bindO (letO (!x9.name) fun x1178 =>
  iteB x1178
  (letO (decide ((p0.Name : Str) ≠ [])) fun x1181 =>
  iteB x1181
  (some true)
  (letO (!x9.other) fun x1184 =>
  iteB x1184
  (letO (decide ((p0.Other : Str) ≠ [])) fun x1187 =>
  iteB x1187
  (some true)
  (letO (!x9.op) fun x1190 =>
  iteB x1190
  (letO (decide (p0.Op ≠ 0)) fun x1193 =>
  iteB x1193
  (some true)
  (letO (!x9.n) fun x1196 =>
  iteB x1196
  (letO (decide (p0.N ≠ 0)) fun x1199 =>
  iteB x1199
  (some true)
  (letO (!x9.frames) fun x1202 =>
  iteB x1202
  (letO (decide (p0.Frames ≠ 0)) fun x1205 =>
  iteB x1205
  (some true)
  (letO (p0.Kids.length : Int) fun x1208 =>
  bindO (F_event_within x1208 x9.least x9.most) fun x1214 =>
  letO (!x1214) fun x1218 =>
  some x1218))
  (letO (p0.Kids.length : Int) fun x1220 =>
  bindO (F_event_within x1220 x9.least x9.most) fun x1226 =>
  letO (!x1226) fun x1230 =>
  some x1230)))
  (letO (!x9.frames) fun x1232 =>
  iteB x1232
  (letO (decide (p0.Frames ≠ 0)) fun x1235 =>
  iteB x1235
  (some true)
  (letO (p0.Kids.length : Int) fun x1238 =>
  bindO (F_event_within x1238 x9.least x9.most) fun x1244 =>
  letO (!x1244) fun x1248 =>
  some x1248))
  (letO (p0.Kids.length : Int) fun x1250 =>
  bindO (F_event_within x1250 x9.least x9.most) fun x1256 =>
  letO (!x1256) fun x1260 =>
  some x1260))))
  (letO (!x9.n) fun x1262 =>
  iteB x1262
  (letO (decide (p0.N ≠ 0)) fun x1265 =>
  iteB x1265
  (some true)
  (letO (!x9.frames) fun x1268 =>
  iteB x1268
  (letO (decide (p0.Frames ≠ 0)) fun x1271 =>
  iteB x1271
  (some true)
  (letO (p0.Kids.length : Int) fun x1274 =>
  bindO (F_event_within x1274 x9.least x9.most) fun x1280 =>
  letO (!x1280) fun x1284 =>
  some x1284))
  (letO (p0.Kids.length : Int) fun x1286 =>
  bindO (F_event_within x1286 x9.least x9.most) fun x1292 =>
  letO (!x1292) fun x1296 =>
  some x1296)))
  (letO (!x9.frames) fun x1298 =>
  iteB x1298
  (letO (decide (p0.Frames ≠ 0)) fun x1301 =>
  iteB x1301
  (some true)
  (letO (p0.Kids.length : Int) fun x1304 =>
  bindO (F_event_within x1304 x9.least x9.most) fun x1310 =>
  letO (!x1310) fun x1314 =>
  some x1314))
  (letO (p0.Kids.length : Int) fun x1316 =>
  bindO (F_event_within x1316 x9.least x9.most) fun x1322 =>
  letO (!x1322) fun x1326 =>
  some x1326)))))
  (letO (!x9.op) fun x1328 =>
  iteB x1328
  (letO (decide (p0.Op ≠ 0)) fun x1331 =>
  iteB x1331
  (some true)
  (letO (!x9.n) fun x1334 =>
  iteB x1334
  (letO (decide (p0.N ≠ 0)) fun x1337 =>
  iteB x1337
  (some true)
  (letO (!x9.frames) fun x1340 =>
  iteB x1340
  (letO (decide (p0.Frames ≠ 0)) fun x1343 =>
  iteB x1343
  (some true)
  (letO (p0.Kids.length : Int) fun x1346 =>
  bindO (F_event_within x1346 x9.least x9.most) fun x1352 =>
  letO (!x1352) fun x1356 =>
  some x1356))
  (letO (p0.Kids.length : Int) fun x1358 =>
  bindO (F_event_within x1358 x9.least x9.most) fun x1364 =>
  letO (!x1364) fun x1368 =>
  some x1368)))
  (letO (!x9.frames) fun x1370 =>
  iteB x1370
  (letO (decide (p0.Frames ≠ 0)) fun x1373 =>
  iteB x1373
  (some true)
  (letO (p0.Kids.length : Int) fun x1376 =>
  bindO (F_event_within x1376 x9.least x9.most) fun x1382 =>
  letO (!x1382) fun x1386 =>
  some x1386))
  (letO (p0.Kids.length : Int) fun x1388 =>
  bindO (F_event_within x1388 x9.least x9.most) fun x1394 =>
  letO (!x1394) fun x1398 =>
  some x1398))))
  (letO (!x9.n) fun x1400 =>
  iteB x1400
  (letO (decide (p0.N ≠ 0)) fun x1403 =>
  iteB x1403
  (some true)
  (letO (!x9.frames) fun x1406 =>
  iteB x1406
  (letO (decide (p0.Frames ≠ 0)) fun x1409 =>
  iteB x1409
  (some true)
  (letO (p0.Kids.length : Int) fun x1412 =>
  bindO (F_event_within x1412 x9.least x9.most) fun x1418 =>
  letO (!x1418) fun x1422 =>
  some x1422))
  (letO (p0.Kids.length : Int) fun x1424 =>
  bindO (F_event_within x1424 x9.least x9.most) fun x1430 =>
  letO (!x1430) fun x1434 =>
  some x1434)))
  (letO (!x9.frames) fun x1436 =>
  iteB x1436
  (letO (decide (p0.Frames ≠ 0)) fun x1439 =>
  iteB x1439
  (some true)
  (letO (p0.Kids.length : Int) fun x1442 =>
  bindO (F_event_within x1442 x9.least x9.most) fun x1448 =>
  letO (!x1448) fun x1452 =>
  some x1452))
  (letO (p0.Kids.length : Int) fun x1454 =>
  bindO (F_event_within x1454 x9.least x9.most) fun x1460 =>
  letO (!x1460) fun x1464 =>
  some x1464))))))
  (letO (!x9.other) fun x1466 =>
  iteB x1466
  (letO (decide ((p0.Other : Str) ≠ [])) fun x1469 =>
  iteB x1469
  (some true)
  (letO (!x9.op) fun x1472 =>
  iteB x1472
  (letO (decide (p0.Op ≠ 0)) fun x1475 =>
  iteB x1475
  (some true)
  (letO (!x9.n) fun x1478 =>
  iteB x1478
  (letO (decide (p0.N ≠ 0)) fun x1481 =>
  iteB x1481
  (some true)
  (letO (!x9.frames) fun x1484 =>
  iteB x1484
  (letO (decide (p0.Frames ≠ 0)) fun x1487 =>
  iteB x1487
  (some true)
  (letO (p0.Kids.length : Int) fun x1490 =>
  bindO (F_event_within x1490 x9.least x9.most) fun x1496 =>
  letO (!x1496) fun x1500 =>
  some x1500))
  (letO (p0.Kids.length : Int) fun x1502 =>
  bindO (F_event_within x1502 x9.least x9.most) fun x1508 =>
  letO (!x1508) fun x1512 =>
  some x1512)))
  (letO (!x9.frames) fun x1514 =>
  iteB x1514
  (letO (decide (p0.Frames ≠ 0)) fun x1517 =>
  iteB x1517
  (some true)
  (letO (p0.Kids.length : Int) fun x1520 =>
  bindO (F_event_within x1520 x9.least x9.most) fun x1526 =>
  letO (!x1526) fun x1530 =>
  some x1530))
  (letO (p0.Kids.length : Int) fun x1532 =>
  bindO (F_event_within x1532 x9.least x9.most) fun x1538 =>
  letO (!x1538) fun x1542 =>
  some x1542))))
  (letO (!x9.n) fun x1544 =>
  iteB x1544
  (letO (decide (p0.N ≠ 0)) fun x1547 =>
  iteB x1547
  (some true)
  (letO (!x9.frames) fun x1550 =>
  iteB x1550
  (letO (decide (p0.Frames ≠ 0)) fun x1553 =>
  iteB x1553
  (some true)
  (letO (p0.Kids.length : Int) fun x1556 =>
  bindO (F_event_within x1556 x9.least x9.most) fun x1562 =>
  letO (!x1562) fun x1566 =>
  some x1566))
  (letO (p0.Kids.length : Int) fun x1568 =>
  bindO (F_event_within x1568 x9.least x9.most) fun x1574 =>
  letO (!x1574) fun x1578 =>
  some x1578)))
  (letO (!x9.frames) fun x1580 =>
  iteB x1580
  (letO (decide (p0.Frames ≠ 0)) fun x1583 =>
  iteB x1583
  (some true)
  (letO (p0.Kids.length : Int) fun x1586 =>
  bindO (F_event_within x1586 x9.least x9.most) fun x1592 =>
  letO (!x1592) fun x1596 =>
  some x1596))
  (letO (p0.Kids.length : Int) fun x1598 =>
  bindO (F_event_within x1598 x9.least x9.most) fun x1604 =>
  letO (!x1604) fun x1608 =>
  some x1608)))))
  (letO (!x9.op) fun x1610 =>
  iteB x1610
  (letO (decide (p0.Op ≠ 0)) fun x1613 =>
  iteB x1613
  (some true)
  (letO (!x9.n) fun x1616 =>
  iteB x1616
  (letO (decide (p0.N ≠ 0)) fun x1619 =>
  iteB x1619
  (some true)
  (letO (!x9.frames) fun x1622 =>
  iteB x1622
  (letO (decide (p0.Frames ≠ 0)) fun x1625 =>
  iteB x1625
  (some true)
  (letO (p0.Kids.length : Int) fun x1628 =>
  bindO (F_event_within x1628 x9.least x9.most) fun x1634 =>
  letO (!x1634) fun x1638 =>
  some x1638))
  (letO (p0.Kids.length : Int) fun x1640 =>
  bindO (F_event_within x1640 x9.least x9.most) fun x1646 =>
  letO (!x1646) fun x1650 =>
  some x1650)))
  (letO (!x9.frames) fun x1652 =>
  iteB x1652
  (letO (decide (p0.Frames ≠ 0)) fun x1655 =>
  iteB x1655
  (some true)
  (letO (p0.Kids.length : Int) fun x1658 =>
  bindO (F_event_within x1658 x9.least x9.most) fun x1664 =>
  letO (!x1664) fun x1668 =>
  some x1668))
  (letO (p0.Kids.length : Int) fun x1670 =>
  bindO (F_event_within x1670 x9.least x9.most) fun x1676 =>
  letO (!x1676) fun x1680 =>
  some x1680))))
  (letO (!x9.n) fun x1682 =>
  iteB x1682
  (letO (decide (p0.N ≠ 0)) fun x1685 =>
  iteB x1685
  (some true)
  (letO (!x9.frames) fun x1688 =>
  iteB x1688
  (letO (decide (p0.Frames ≠ 0)) fun x1691 =>
  iteB x1691
  (some true)
  (letO (p0.Kids.length : Int) fun x1694 =>
  bindO (F_event_within x1694 x9.least x9.most) fun x1700 =>
  letO (!x1700) fun x1704 =>
  some x1704))
  (letO (p0.Kids.length : Int) fun x1706 =>
  bindO (F_event_within x1706 x9.least x9.most) fun x1712 =>
  letO (!x1712) fun x1716 =>
  some x1716)))
  (letO (!x9.frames) fun x1718 =>
  iteB x1718
  (letO (decide (p0.Frames ≠ 0)) fun x1721 =>
  iteB x1721
  (some true)
  (letO (p0.Kids.length : Int) fun x1724 =>
  bindO (F_event_within x1724 x9.least x9.most) fun x1730 =>
  letO (!x1730) fun x1734 =>
  some x1734))
  (letO (p0.Kids.length : Int) fun x1736 =>
  bindO (F_event_within x1736 x9.least x9.most) fun x1742 =>
  letO (!x1742) fun x1746 =>
  some x1746)))))) fun g1175 =>
  iteB g1175
  (some 2)
  (bindO (iteB x9.name
  (bindO (F_event_isName p0.Name) fun x1876 =>
  letO (!x1876) fun x1880 =>
  iteB x1880
  (some true)
  (iteB x9.other
  (bindO (F_event_isName p0.Other) fun x1885 =>
  letO (!x1885) fun x1889 =>
  some x1889)
  (some false)))
  (iteB x9.other
  (bindO (F_event_isName p0.Other) fun x1893 =>
  letO (!x1893) fun x1897 =>
  some x1897)
  (some false))) fun g1871 =>
  iteB g1871
  (some 8)
  (bindO (iteB x9.op
  (bindO (F_event_within p0.Op 1 6) fun x1914 =>
  letO (!x1914) fun x1918 =>
  some x1918)
  (some false)) fun g1909 =>
  iteB g1909
  (some 7)
  (bindO (iteB x9.frames
  (bindO (F_event_within p0.Frames 1 4096) fun x1935 =>
  letO (!x1935) fun x1939 =>
  some x1939)
  (some false)) fun g1930 =>
  iteB g1930
  (some 9)
  (bindO (letO (decide (p0.Kind = 13)) fun x1956 =>
  iteB x1956
  (bindO (F_event_within p0.N 1 p0.Frames) fun x1960 =>
  letO (!x1960) fun x1964 =>
  some x1964)
  (some false)) fun g1953 =>
  iteB g1953
  (some 9)
  (bindO (iteB x9.n
  (bindO (F_event_within p0.N (-1125899906842624) 1125899906842624) fun x1992 =>
  letO (!x1992) fun x1996 =>
  iteB x1996
  (some true)
  (letO (decide (p0.Kind = 5)) fun x1999 =>
  iteB x1999
  (letO (decide (p0.N < 0)) fun x2002 =>
  some x2002)
  (some false)))
  (letO (decide (p0.Kind = 5)) fun x2004 =>
  iteB x2004
  (letO (decide (p0.N < 0)) fun x2007 =>
  some x2007)
  (some false))) fun g1987 =>
  iteB g1987
  (some 9)
  (some 0)))))))


def F_event_each_event_checkOne_B_L1 (rfD : Cond → Option Int) (p0 : Cond) (k186 : Unit → Option Int) (x189 : Int) : Int → Option Int := loopO fun k341 g337 =>
  letO (decide (g337 < x189)) fun x345 =>
  iteB x345
  (bindO (at' p0.Kids g337) fun x383 =>
  bindO (rfD x383) fun x404 =>
  letO (decide (x404 ≠ 0)) fun x409 =>
  iteB x409
  (some x404)
  (letO (IntKind.i64.wrap (g337 + 1)) fun x413 =>
  k341 x413))
  (k186 ())
/-- orangebox/event.each@orangebox/event.checkOne -/
def F_event_each_event_checkOne_B (rfD : Cond → Option Int) (p0 : Cond) : Option Int :=
  bindO (F_event_checkOne p0) fun x21 =>
  letO (decide (x21 ≠ 0)) fun x26 =>
  iteB x26
  (some x21)
  (joinO (fun _ =>
  some 0) fun k186 =>
  letO (p0.Kids.length : Int) fun x189 =>
  F_event_each_event_checkOne_B_L1 rfD p0 k186 x189 0)

def F_event_each_event_checkOne_R : Nat → Cond → Option Int
  | 0 => fun _ => none
  | n + 1 => F_event_each_event_checkOne_B (F_event_each_event_checkOne_R n)
/-- orangebox/event.each@orangebox/event.checkOne -/
def F_event_each_event_checkOne : Cond → Option Int := F_event_each_event_checkOne_R FU

/-- orangebox/event.CheckCond -/
def F_event_CheckCond (p0 : Cond) : Option Int :=
  bindO (F_event_small p0 20 0) fun ⟨x24, x25⟩ =>
  letO (!x24) fun x29 =>
  iteB x29
  (some 3)
  (bindO (F_event_each_event_checkOne p0) fun x35 =>
  some x35)

/-- orangebox/event.checkMove$1 -/
def F_event_checkMove_1 (p0 : Cond) : Option Int :=
  bindO (letO (decide (p0.Kind = 6)) fun x26 =>
  iteB x26
  (some true)
  (letO (decide (p0.Kind = 7)) fun x29 =>
  some x29)) fun g23 =>
  iteB g23
  (some 2)
  (some 0)


def F_event_each_event_checkMove_1_B_L1 (rfE : Cond → Option Int) (p0 : Cond) (k186 : Unit → Option Int) (x189 : Int) : Int → Option Int := loopO fun k341 g337 =>
  letO (decide (g337 < x189)) fun x345 =>
  iteB x345
  (bindO (at' p0.Kids g337) fun x383 =>
  bindO (rfE x383) fun x404 =>
  letO (decide (x404 ≠ 0)) fun x409 =>
  iteB x409
  (some x404)
  (letO (IntKind.i64.wrap (g337 + 1)) fun x413 =>
  k341 x413))
  (k186 ())
/-- orangebox/event.each@orangebox/event.checkMove$1 -/
def F_event_each_event_checkMove_1_B (rfE : Cond → Option Int) (p0 : Cond) : Option Int :=
  bindO (F_event_checkMove_1 p0) fun x21 =>
  letO (decide (x21 ≠ 0)) fun x26 =>
  iteB x26
  (some x21)
  (joinO (fun _ =>
  some 0) fun k186 =>
  letO (p0.Kids.length : Int) fun x189 =>
  F_event_each_event_checkMove_1_B_L1 rfE p0 k186 x189 0)

def F_event_each_event_checkMove_1_R : Nat → Cond → Option Int
  | 0 => fun _ => none
  | n + 1 => F_event_each_event_checkMove_1_B (F_event_each_event_checkMove_1_R n)
/-- orangebox/event.each@orangebox/event.checkMove$1 -/
def F_event_each_event_checkMove_1 : Cond → Option Int := F_event_each_event_checkMove_1_R FU

def F_event_checkMove_L1 (p0 : Rules) (p1 : MoveT) (k141 : Unit → Option Int) (x149 : Int) : Int → Option Int := loopO fun k265 g261 =>
  letO (decide (g261 < x149)) fun x269 =>
  iteB x269
  (bindO (at' ([p1.From, p1.To] : List Str) g261) fun x298 =>
  bindO (F_slices_Contains___string_string_ p0.Phases x298) fun x311 =>
  letO (!x311) fun x315 =>
  iteB x315
  (some 4)
  (letO (IntKind.i64.wrap (g261 + 1)) fun x319 =>
  k265 x319))
  (k141 ())
/-- orangebox/event.checkMove -/
def F_event_checkMove (p0 : Rules) (p1 : MoveT) : Option Int :=
  joinO (fun _ =>
  bindO (F_event_CheckCond p1.When) fun x335 =>
  letO (decide (x335 ≠ 0)) fun x340 =>
  iteB x340
  (some x335)
  (bindO (F_event_each_event_checkMove_1 p1.When) fun x346 =>
  some x346)) fun k141 =>
  letO ([p1.From, p1.To] : List Str) fun _ =>
  letO ((([p1.From, p1.To] : List Str)).length : Int) fun x149 =>
  F_event_checkMove_L1 p0 p1 k141 x149 0

/-- orangebox/event.checkRule$1$1 -/
def F_event_checkRule_1_1 (p0 : Rule) (c0 : Str) : Option Bool :=
  letO (decide ((p0.Name : Str) = c0)) fun x10 =>
  some x10

def F_slices_IndexFunc___api_Rule_api_Rule__event_checkRule_1_1_L1 (p0 : List Rule) (p1c0 : Str) (k130 : Unit → Option Int) (x133 : Int) : Int → Option Int := loopO fun k253 g249 =>
  letO (decide (g249 < x133)) fun x257 =>
  iteB x257
  (bindO (at' p0 g249) fun x288 =>
  bindO (F_event_checkRule_1_1 x288 p1c0) fun x303 =>
  iteB x303
  (some g249)
  (letO (IntKind.i64.wrap (g249 + 1)) fun x309 =>
  k253 x309))
  (k130 ())
/-- slices.IndexFunc[[]orangebox/api.Rule,orangebox/api.Rule]@orangebox/event.checkRule$1$1 -/
def F_slices_IndexFunc___api_Rule_api_Rule__event_checkRule_1_1 (p0 : List Rule) (p1c0 : Str) : Option Int :=
  joinO (fun _ =>
  some (-1)) fun k130 =>
  letO (p0.length : Int) fun x133 =>
  F_slices_IndexFunc___api_Rule_api_Rule__event_checkRule_1_1_L1 p0 p1c0 k130 x133 0

/-- slices.ContainsFunc[[]orangebox/api.Rule,orangebox/api.Rule]@orangebox/event.checkRule$1$1 -/
def F_slices_ContainsFunc___api_Rule_api_Rule__event_checkRule_1_1 (p0 : List Rule) (p1c0 : Str) : Option Bool :=
  bindO (F_slices_IndexFunc___api_Rule_api_Rule__event_checkRule_1_1 p0 p1c0) fun x7 =>
  letO (decide (0 ≤ x7)) fun x11 =>
  some x11

/-- orangebox/event.checkRule$1 -/
def F_event_checkRule_1 (p0 : Str) (c0 : Rules) (c1 : Int) : Option Bool :=
  bindO (sub' c0.Rules 0 c1) fun x16 =>
  bindO (F_slices_ContainsFunc___api_Rule_api_Rule__event_checkRule_1_1 x16 p0) fun x21 =>
  some x21

/-- orangebox/event.checkRule$2~df146_a0de -/
def F_event_checkRule_2_df146_a0de (p0 : Cond) (c0 : Rules) (c1f1 : Int) : Option Int :=
  bindO (letO (decide (p0.Kind = 6)) fun x86 =>
  iteB x86
  (bindO (F_slices_Contains___string_string_ c0.Phases p0.Name) fun x90 =>
  letO (!x90) fun x94 =>
  iteB x94
  (some true)
  (letO (decide (p0.Kind = 7)) fun x97 =>
  iteB x97
  (bindO (F_event_checkRule_1 p0.Name c0 c1f1) fun x100 =>
  letO (!x100) fun x104 =>
  some x104)
  (some false)))
  (letO (decide (p0.Kind = 7)) fun x106 =>
  iteB x106
  (bindO (F_event_checkRule_1 p0.Name c0 c1f1) fun x109 =>
  letO (!x109) fun x113 =>
  some x113)
  (some false))) fun g83 =>
  iteB g83
  (some 4)
  (some 0)


def F_event_each_event_checkRule_2_df146_a0de_B_L1 (rfF : Cond → Rules → Int → Option Int) (p0 : Cond) (p1c0 : Rules) (p1c1f1 : Int) (k192 : Unit → Option Int) (x195 : Int) : Int → Option Int := loopO fun k343 g339 =>
  letO (decide (g339 < x195)) fun x347 =>
  iteB x347
  (bindO (at' p0.Kids g339) fun x384 =>
  bindO (rfF x384 p1c0 p1c1f1) fun x404 =>
  letO (decide (x404 ≠ 0)) fun x409 =>
  iteB x409
  (some x404)
  (letO (IntKind.i64.wrap (g339 + 1)) fun x413 =>
  k343 x413))
  (k192 ())
/-- orangebox/event.each@orangebox/event.checkRule$2~df146_a0de -/
def F_event_each_event_checkRule_2_df146_a0de_B (rfF : Cond → Rules → Int → Option Int) (p0 : Cond) (p1c0 : Rules) (p1c1f1 : Int) : Option Int :=
  bindO (F_event_checkRule_2_df146_a0de p0 p1c0 p1c1f1) fun x31 =>
  letO (decide (x31 ≠ 0)) fun x36 =>
  iteB x36
  (some x31)
  (joinO (fun _ =>
  some 0) fun k192 =>
  letO (p0.Kids.length : Int) fun x195 =>
  F_event_each_event_checkRule_2_df146_a0de_B_L1 rfF p0 p1c0 p1c1f1 k192 x195 0)

def F_event_each_event_checkRule_2_df146_a0de_R : Nat → Cond → Rules → Int → Option Int
  | 0 => fun _ _ _ => none
  | n + 1 => F_event_each_event_checkRule_2_df146_a0de_B (F_event_each_event_checkRule_2_df146_a0de_R n)
/-- orangebox/event.each@orangebox/event.checkRule$2~df146_a0de -/
def F_event_each_event_checkRule_2_df146_a0de : Cond → Rules → Int → Option Int := F_event_each_event_checkRule_2_df146_a0de_R FU

/-- orangebox/event.checkRule -/
def F_event_checkRule (p0 : Rules) (p1 : Int) : Option Int :=
  bindO (at' p0.Rules p1) fun x15 =>
  bindO (F_event_isName x15.Name) fun x59 =>
  letO (!x59) fun x63 =>
  iteB x63
  (some 8)
  (bindO (F_event_checkRule_1 x15.Name p0 p1) fun x68 =>
  iteB x68
  (some 5)
  (bindO (F_event_CheckCond x15.When) fun x88 =>
  letO (decide (x88 ≠ 0)) fun x93 =>
  iteB x93
  (some x88)
  (bindO (F_event_each_event_checkRule_2_df146_a0de x15.When p0 p1) fun x98 =>
  some x98)))

def F_event_Check_L1 (p0 : Rules) (k311 : Unit → Option Int) (x314 : Int) : Int → Option Int := loopO fun k530 g526 =>
  letO (decide (g526 < x314)) fun x534 =>
  iteB x534
  (bindO (at' p0.Phases g526) fun x588 =>
  bindO (F_event_isName x588) fun x613 =>
  letO (!x613) fun x617 =>
  iteB x617
  (some 8)
  (bindO (sub' p0.Phases 0 g526) fun x622 =>
  bindO (F_slices_Contains___string_string_ x622 x588) fun x628 =>
  iteB x628
  (some 5)
  (letO (IntKind.i64.wrap (g526 + 1)) fun x634 =>
  k530 x634)))
  (k311 ())
def F_event_Check_L2 (p0 : Rules) (k792 : Unit → Option Int) (x795 : Int) : Int → Option Int := loopO fun k947 g943 =>
  letO (decide (g943 < x795)) fun x951 =>
  iteB x951
  (bindO (at' p0.Moves g943) fun x989 =>
  bindO (F_event_checkMove p0 x989) fun x1010 =>
  letO (decide (x1010 ≠ 0)) fun x1015 =>
  iteB x1015
  (some x1010)
  (letO (IntKind.i64.wrap (g943 + 1)) fun x1019 =>
  k947 x1019))
  (k792 ())
def F_event_Check_L3 (p0 : Rules) (k1101 : Unit → Option Int) (x1104 : Int) : Int → Option Int := loopO fun k1180 g1176 =>
  letO (decide (g1176 < x1104)) fun x1184 =>
  iteB x1184
  (bindO (F_event_checkRule p0 g1176) fun x1205 =>
  letO (decide (x1205 ≠ 0)) fun x1210 =>
  iteB x1210
  (some x1205)
  (letO (IntKind.i64.wrap (g1176 + 1)) fun x1214 =>
  k1180 x1214))
  (k1101 ())
/-- orangebox/event.Check -/
def F_event_Check (p0 : Rules) : Option Int :=
  bindO (letO (p0.Phases.length : Int) fun x66 =>
  letO (decide (20 < x66)) fun x71 =>
  iteB x71
  (some true)
  (letO (p0.Moves.length : Int) fun x74 =>
  letO (decide (60 < x74)) fun x79 =>
  iteB x79
  (some true)
  (letO (p0.Rules.length : Int) fun x82 =>
  letO (decide (60 < x82)) fun x87 =>
  some x87))) fun g63 =>
  iteB g63
  (some 3)
  (joinO (fun _ =>
  joinO (fun _ =>
  joinO (fun _ =>
  some 0) fun k1101 =>
  letO (p0.Rules.length : Int) fun x1104 =>
  F_event_Check_L3 p0 k1101 x1104 0) fun k792 =>
  letO (p0.Moves.length : Int) fun x795 =>
  F_event_Check_L2 p0 k792 x795 0) fun k311 =>
  letO (p0.Phases.length : Int) fun x314 =>
  F_event_Check_L1 p0 k311 x314 0)

/-- orangebox/event.Read -/
def F_event_Read (p0 : Str) : Option (Rules × Int × Int) :=
  letO (p0.length : Int) fun x20 =>
  letO (decide (200000 < x20)) fun x22 =>
  iteB x22
  (some (Rules.mk [] [] [], 0, 3))
  (bindO (F_caught (EventReader.mk p0 0 (EventToken.mk 0 0 0 []) (Rules.mk [] [] []))) fun ⟨x68, x69⟩ =>
  letO (decide (x68.e ≠ 0)) fun x84 =>
  iteB x84
  (some (Rules.mk [] [] [], x68.at_, x68.e))
  (bindO (F_event_Check x69.r) fun x111 =>
  letO (decide (x111 ≠ 0)) fun x116 =>
  iteB x116
  (some (Rules.mk [] [] [], 0, x111))
  (some (x69.r, 0, 0))))

/-- (*strings.Builder).WriteString -/
def F_strings_Builder_WriteString (p0 : List Int) (p1 : Str) : Option (Int × Unit × (List Int)) :=
  bindO (X_bcheck p0) fun x11 =>
  bindO (app' 1 x11 (nums p1)) fun x20 =>
  letO (p1.length : Int) fun x26 =>
  some (x26, (), x20)


def F_event_joined_L1 (rfG : Cond → Int → Option Str) (p0 : List Cond) (p2 : Int) (x185 : Int) : (List Str) × Int → Option (List Str) := loopO fun k358 ⟨g351, g353⟩ =>
  letO (decide (g353 < x185)) fun x362 =>
  iteB x362
  (bindO (at' p0 g353) fun x403 =>
  bindO (rfG x403 p2) fun x423 =>
  letO ([x423] : List Str) fun _ =>
  bindO (app' 16 g351 ([x423] : List Str)) fun x432 =>
  letO (IntKind.i64.wrap (g353 + 1)) fun x436 =>
  k358 (x432, x436))
  (some g351)
/-- orangebox/event.joined -/
def F_event_joined (rfG : Cond → Int → Option Str) (p0 : List Cond) (p1 : Str) (p2 : Int) : Option Str :=
  bindO (letO (p0.length : Int) fun x185 =>
  F_event_joined_L1 rfG p0 p2 x185 ([], 0)) fun g180 =>
  bindO (cat' [32] p1) fun x439 =>
  bindO (cat' x439 [32]) fun x441 =>
  bindO (X_Join g180 x441) fun x444 =>
  some x444

/-- orangebox/event.condText$1 -/
def F_event_condText_1 (rfG : Cond → Int → Option Str) (c0 : Cond) : Option Str :=
  bindO (F_event_joined rfG c0.Kids [] 3) fun x9 =>
  some x9

/-- orangebox/event.condText$1~z -/
def F_event_condText_1_z (rfG : Cond → Int → Option Str) (c0 : Cond) : Option Str :=
  bindO (F_event_joined rfG c0.Kids [] 3) fun x9 =>
  some x9

/-- orangebox/event.condText -/
def F_event_condText_B (rfG : Cond → Int → Option Str) (p0 : Cond) (p1 : Int) : Option Str :=
  letO (decide (p0.Kind = 9)) fun x255 =>
  iteB x255
  (bindO (bindO (F_event_joined rfG p0.Kids [97, 110, 100] 2) fun x282 =>
  bindO (letO (decide (p1 = 2)) fun x294 =>
  iteB x294
  (some true)
  (letO (decide (p1 = 3)) fun x297 =>
  some x297)) fun g291 =>
  iteB g291
  (bindO (cat' [40] x282) fun x300 =>
  bindO (cat' x300 [41]) fun x302 =>
  some x302)
  (some x282)) fun g277 =>
  some g277)
  (letO (decide (p0.Kind = 10)) fun x306 =>
  iteB x306
  (bindO (bindO (F_event_joined rfG p0.Kids [111, 114] 1) fun x328 =>
  letO (decide (p1 ≠ 0)) fun x333 =>
  iteB x333
  (bindO (cat' [40] x328) fun x336 =>
  bindO (cat' x336 [41]) fun x338 =>
  some x338)
  (some x328)) fun g323 =>
  some g323)
  (letO (decide (p0.Kind = 1)) fun x342 =>
  iteB x342
  (some [116, 114, 117, 101])
  (letO (decide (p0.Kind = 2)) fun x347 =>
  iteB x347
  (some [102, 97, 108, 115, 101])
  (letO (decide (p0.Kind = 3)) fun x352 =>
  iteB x352
  (bindO (cat' p0.Name [32]) fun x360 =>
  bindO (at' zO.l p0.Op) fun x362 =>
  bindO (cat' x360 x362) fun x364 =>
  bindO (cat' x364 [32]) fun x366 =>
  bindO (X_Itoa p0.N) fun x369 =>
  bindO (cat' x366 x369) fun x373 =>
  some x373)
  (letO (decide (p0.Kind = 4)) fun x377 =>
  iteB x377
  (bindO (cat' p0.Name [32]) fun x383 =>
  bindO (at' zO.l p0.Op) fun x385 =>
  bindO (cat' x383 x385) fun x387 =>
  bindO (cat' x387 [32]) fun x389 =>
  bindO (cat' x389 p0.Other) fun x391 =>
  some x391)
  (letO (decide (p0.Kind = 5)) fun x395 =>
  iteB x395
  (bindO (cat' [115, 116, 101, 97, 100, 121, 32] p0.Name) fun x402 =>
  bindO (cat' x402 [32]) fun x404 =>
  bindO (X_Itoa p0.N) fun x407 =>
  bindO (cat' x404 x407) fun x411 =>
  bindO (cat' x411 [32]) fun x413 =>
  bindO (X_Itoa p0.Frames) fun x416 =>
  bindO (cat' x413 x416) fun x420 =>
  some x420)
  (letO (decide (p0.Kind = 6)) fun x424 =>
  iteB x424
  (bindO (cat' [112, 104, 97, 115, 101, 32] p0.Name) fun x428 =>
  some x428)
  (letO (decide (p0.Kind = 7)) fun x431 =>
  iteB x431
  (bindO (cat' [114, 117, 108, 101, 32] p0.Name) fun x435 =>
  some x435)
  (letO (decide (p0.Kind = 8)) fun x438 =>
  iteB x438
  (bindO (F_event_condText_1 rfG p0) fun x442 =>
  bindO (cat' [110, 111, 116, 32] x442) fun x446 =>
  some x446)
  (letO (decide (p0.Kind = 11)) fun x449 =>
  iteB x449
  (bindO (X_Itoa p0.Frames) fun x454 =>
  bindO (cat' [102, 111, 114, 32] x454) fun x458 =>
  bindO (cat' x458 [32]) fun x460 =>
  bindO (F_event_condText_1 rfG p0) fun x462 =>
  bindO (cat' x460 x462) fun x466 =>
  some x466)
  (letO (decide (p0.Kind = 12)) fun x469 =>
  iteB x469
  (bindO (X_Itoa p0.Frames) fun x474 =>
  bindO (cat' [119, 105, 116, 104, 105, 110, 32] x474) fun x478 =>
  bindO (cat' x478 [32]) fun x480 =>
  bindO (F_event_condText_1 rfG p0) fun x482 =>
  bindO (cat' x480 x482) fun x486 =>
  some x486)
  (letO (decide (p0.Kind = 13)) fun x489 =>
  iteB x489
  (bindO (X_Itoa p0.N) fun x497 =>
  bindO (cat' [99, 111, 117, 110, 116, 32] x497) fun x501 =>
  bindO (cat' x501 [32, 111, 102, 32]) fun x503 =>
  bindO (X_Itoa p0.Frames) fun x506 =>
  bindO (cat' x503 x506) fun x510 =>
  bindO (cat' x510 [32]) fun x512 =>
  bindO (F_event_condText_1_z rfG p0) fun x514 =>
  bindO (cat' x512 x514) fun x518 =>
  some x518)
  (letO (decide (p0.Kind = 15)) fun x522 =>
  iteB x522
  (bindO (F_event_condText_1 rfG p0) fun x526 =>
  bindO (cat' [114, 105, 115, 101, 115, 32] x526) fun x530 =>
  some x530)
  (bindO (at' p0.Kids 0) fun x535 =>
  bindO (rfG x535 3) fun x551 =>
  bindO (cat' [115, 105, 110, 99, 101, 32] x551) fun x553 =>
  bindO (cat' x553 [32]) fun x555 =>
  bindO (at' p0.Kids 1) fun x557 =>
  bindO (rfG x557 3) fun x573 =>
  bindO (cat' x555 x573) fun x575 =>
  some x575))))))))))))))

def F_event_condText_R : Nat → Cond → Int → Option Str
  | 0 => fun _ _ => none
  | n + 1 => F_event_condText_B (F_event_condText_R n)
/-- orangebox/event.condText -/
def F_event_condText : Cond → Int → Option Str := F_event_condText_R FU

/-- (*strings.Builder).Len -/
def F_strings_Builder_Len (p0 : List Int) : Option (Int × (List Int)) :=
  letO (p0.length : Int) fun x11 =>
  some (x11, p0)

def F_event_Print_L1 (p0 : Rules) (x197 : Int) : Int × (List Int) → Option (List Int) := loopO fun k349 ⟨g338, g342⟩ =>
  letO (decide (g338 < x197)) fun x353 =>
  iteB x353
  (bindO (at' p0.Phases g338) fun x387 =>
  bindO (cat' [112, 104, 97, 115, 101, 32] x387) fun x399 =>
  bindO (cat' x399 [10]) fun x401 =>
  bindO (F_strings_Builder_WriteString g342 x401) fun ⟨x403, x404, x405⟩ =>
  letO (IntKind.i64.wrap (g338 + 1)) fun x413 =>
  k349 (x413, x405))
  (some g342)
def F_event_Print_L2 (p0 : Rules) (x656 : Int) : Int × (List Int) → Option (List Int) := loopO fun k891 ⟨g881, g885⟩ =>
  letO (decide (g881 < x656)) fun x895 =>
  iteB x895
  (bindO (at' p0.Moves g881) fun x951 =>
  bindO (cat' [109, 111, 118, 101, 32] x951.From) fun x973 =>
  bindO (cat' x973 [32]) fun x975 =>
  bindO (cat' x975 x951.To) fun x977 =>
  bindO (cat' x977 [32, 105, 102, 32]) fun x979 =>
  bindO (F_event_condText x951.When 0) fun x982 =>
  bindO (cat' x979 x982) fun x984 =>
  bindO (cat' x984 [10]) fun x986 =>
  bindO (F_strings_Builder_WriteString g885 x986) fun ⟨x988, x989, x990⟩ =>
  letO (IntKind.i64.wrap (g881 + 1)) fun x999 =>
  k891 (x999, x990))
  (some g885)
def F_event_Print_L3 (p0 : Rules) (x1222 : Int) : Int × (List Int) → Option (List Int) := loopO fun k1437 ⟨g1427, g1431⟩ =>
  letO (decide (g1427 < x1222)) fun x1441 =>
  iteB x1441
  (bindO (at' p0.Rules g1427) fun x1492 =>
  bindO (cat' [114, 117, 108, 101, 32] x1492.Name) fun x1513 =>
  bindO (cat' x1513 [32, 105, 102, 32]) fun x1515 =>
  bindO (F_event_condText x1492.When 0) fun x1518 =>
  bindO (cat' x1515 x1518) fun x1520 =>
  bindO (cat' x1520 [10]) fun x1522 =>
  bindO (F_strings_Builder_WriteString g1431 x1522) fun ⟨x1524, x1525, x1526⟩ =>
  letO (IntKind.i64.wrap (g1427 + 1)) fun x1535 =>
  k1437 (x1535, x1526))
  (some g1431)
/-- orangebox/event.Print -/
def F_event_Print (p0 : Rules) : Option (Str × Int) :=
  bindO (F_event_Check p0) fun x26 =>
  letO (decide (x26 ≠ 0)) fun x31 =>
  iteB x31
  (some ([], x26))
  (bindO (letO (p0.Phases.length : Int) fun x197 =>
  F_event_Print_L1 p0 x197 (0, [])) fun g192 =>
  bindO (letO (p0.Moves.length : Int) fun x656 =>
  F_event_Print_L2 p0 x656 (0, g192)) fun g651 =>
  bindO (letO (p0.Rules.length : Int) fun x1222 =>
  F_event_Print_L3 p0 x1222 (0, g651)) fun g1217 =>
  bindO (F_strings_Builder_Len g1217) fun ⟨x1553, x1554⟩ =>
  letO (decide (200000 < x1553)) fun x1562 =>
  iteB x1562
  (some ([], 3))
  (bindO (X_bstring x1554) fun x1567 =>
  some (x1567, 0)))

/-- orangebox/orangeboxlaw6.reads -/
def F_law6_reads : Option Bool :=
  bindO (F_event_Read [114, 117, 108, 101, 32, 97, 32, 105, 102, 32, 110, 111, 116, 32, 32, 40, 120, 32, 62, 49, 32, 111, 114, 32, 116, 114, 117, 101, 41]) fun ⟨x5, x6, x7⟩ =>
  bindO (F_event_Print x5) fun ⟨x23, x24⟩ =>
  bindO (letO (decide (x7 = 0)) fun x39 =>
  iteB x39
  (letO (decide (x24 = 0)) fun x42 =>
  iteB x42
  (letO (decide ((x23 : Str) = [114, 117, 108, 101, 32, 97, 32, 105, 102, 32, 110, 111, 116, 32, 40, 120, 32, 62, 32, 49, 32, 111, 114, 32, 116, 114, 117, 101, 41, 10])) fun x45 =>
  some x45)
  (some false))
  (some false)) fun g36 =>
  some g36

/-- orangebox/orangeboxlaw6.EventInputsMatchSpec -/
def F_law6_EventInputsMatchSpec (p0 : List Track) (p1 : Int) : Option Bool :=
  bindO (bindO (F_event_CheckTracks p0) fun x56 =>
  bindO (F_ref6_CheckTracks p0) fun x61 =>
  letO (decide (x56 = x61)) fun x65 =>
  iteB x65
  (bindO (F_event_Inputs p0 p1) fun ⟨x68, x69⟩ =>
  bindO (F_law6_inputs x68 x69) fun x76 =>
  bindO (F_ref6_Inputs p0 p1) fun ⟨x80, x81⟩ =>
  bindO (F_law6_inputs x80 x81) fun x88 =>
  letO (decide ((x76 : Str) = x88)) fun x92 =>
  iteB x92
  (bindO (F_law6_reads) fun x96 =>
  some x96)
  (some false))
  (some false)) fun g52 =>
  some g52
end Go.Lf
