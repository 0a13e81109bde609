/- Plain functions: what the code computes. -/
import Derived.Test.YtnajnkghilemhaaGreatDoorITy
import Derived.Test.YtnajnkghilemhaaGreatDoorXVc
import Derived.Test.YtnajnkghilemhaaGreatDoorLf13

namespace Go.Lf
open Go.RowKit Go.OB

def F_internal_stringslite_IndexByte (p0 : Str) (p1 : Int) : Option Int :=
  bindO (X_IndexByte p0 p1) fun x3 =>
  some x3

def F_strings_IndexByte (p0 : Str) (p1 : Int) : Option Int :=
  bindO (F_internal_stringslite_IndexByte p0 p1) fun x4 =>
  some x4

def F_event_reader_blanks_L1 (p0 : EventReader) : Int → Option EventReader := loopO fun k169 g165 =>
  letO (p0.text.length : Int) fun x185 =>
  letO (decide (g165 < x185)) fun x187 =>
  iteB x187
  (bindO (byte' p0.text g165) fun x194 =>
  bindO (letO (decide (x194 = 32)) fun x215 =>
  iteB x215
  (some x215)
  (letO (decide (x194 = 9)) fun x219 =>
  iteB x219
  (some x219)
  (letO (decide (x194 = 10)) fun x223 =>
  iteB x223
  (some x223)
  (letO (decide (x194 = 13)) fun x226 =>
  some x226)))) fun g211 =>
  iteB g211
  (letO (IntKind.i64.wrap (g165 + 1)) fun x229 =>
  k169 x229)
  (letO (decide (x194 = 35)) fun x233 =>
  iteB x233
  (bindO (sub' p0.text g165 (p0.text.length : Int)) fun x239 =>
  bindO (F_strings_IndexByte x239 10) fun x242 =>
  bindO (letO (decide (x242 < 0)) fun x260 =>
  iteB x260
  (letO (p0.text.length : Int) fun x265 =>
  letO (IntKind.i64.wrap (x265 - g165)) fun x267 =>
  some x267)
  (some x242)) fun g256 =>
  letO (IntKind.i64.wrap (g165 + g256)) fun x270 =>
  k169 x270)
  (some (EventReader.mk p0.text g165 p0.now p0.r))))
  (some (EventReader.mk p0.text g165 p0.now p0.r))
def F_event_reader_blanks (p0 : EventReader) : Option EventReader :=
  F_event_reader_blanks_L1 p0 p0.at_

def F_event_nameByte (p0 : Int) : Option Bool :=
  bindO (letO (decide (97 ≤ p0)) fun x25 =>
  bindO (iteB x25
  (letO (decide (p0 ≤ 122)) fun x31 =>
  some x31)
  (some false)) fun j27 =>
  bindO (iteB j27
  (some true)
  (letO (decide (48 ≤ p0)) fun x37 =>
  iteB x37
  (letO (decide (p0 ≤ 57)) fun x40 =>
  some x40)
  (some false))) fun j33 =>
  iteB j33
  (some true)
  (letO (decide (p0 = 45)) fun x43 =>
  some x43)) fun g22 =>
  some g22

def F_event_isWord (p0 : Str) : Option Bool :=
  bindO (letO (decide ((p0 : Str) = [112, 104, 97, 115, 101])) fun x138 =>
  iteB x138
  (some x138)
  (letO (decide ((p0 : Str) = [109, 111, 118, 101])) fun x142 =>
  iteB x142
  (some x142)
  (letO (decide ((p0 : Str) = [114, 117, 108, 101])) fun x146 =>
  iteB x146
  (some x146)
  (letO (decide ((p0 : Str) = [105, 102])) fun x150 =>
  iteB x150
  (some x150)
  (letO (decide ((p0 : Str) = [111, 114])) fun x154 =>
  iteB x154
  (some x154)
  (letO (decide ((p0 : Str) = [97, 110, 100])) fun x158 =>
  iteB x158
  (some x158)
  (letO (decide ((p0 : Str) = [116, 114, 117, 101])) fun x162 =>
  iteB x162
  (some x162)
  (letO (decide ((p0 : Str) = [102, 97, 108, 115, 101])) fun x166 =>
  iteB x166
  (some x166)
  (letO (decide ((p0 : Str) = [115, 116, 101, 97, 100, 121])) fun x170 =>
  iteB x170
  (some x170)
  (letO (decide ((p0 : Str) = [110, 111, 116])) fun x174 =>
  iteB x174
  (some x174)
  (letO (decide ((p0 : Str) = [102, 111, 114])) fun x178 =>
  iteB x178
  (some x178)
  (letO (decide ((p0 : Str) = [119, 105, 116, 104, 105, 110])) fun x182 =>
  iteB x182
  (some x182)
  (letO (decide ((p0 : Str) = [99, 111, 117, 110, 116])) fun x186 =>
  iteB x186
  (some x186)
  (letO (decide ((p0 : Str) = [111, 102])) fun x190 =>
  iteB x190
  (some x190)
  (letO (decide ((p0 : Str) = [114, 105, 115, 101, 115])) fun x194 =>
  iteB x194
  (some x194)
  (letO (decide ((p0 : Str) = [115, 105, 110, 99, 101])) fun x197 =>
  some x197)))))))))))))))) fun g134 =>
  iteB g134
  (some true)
  (some false)

def F_event_within (p0 : Int) (p1 : Int) (p2 : Int) : Option Bool :=
  bindO (letO (decide (p1 ≤ p0)) fun x10 =>
  iteB x10
  (letO (decide (p0 ≤ p2)) fun x13 =>
  some x13)
  (some false)) fun g7 =>
  some g7

def F_event_isName_L1 (p0 : Str) (k187 : Unit → Option Bool) (x190 : Int) : Int → Option Bool := loopO fun k267 g263 =>
  letO (decide (g263 < x190)) fun x271 =>
  iteB x271
  (bindO (byte' p0 g263) fun x292 =>
  bindO (F_event_nameByte x292) fun x295 =>
  letO (!x295) fun x299 =>
  iteB x299
  (some false)
  (letO (IntKind.i64.wrap (g263 + 1)) fun x303 =>
  k267 x303))
  (k187 ())
def F_event_isName (p0 : Str) : Option Bool :=
  bindO (letO (p0.length : Int) fun x73 =>
  bindO (F_event_within x73 1 30) fun x76 =>
  letO (!x76) fun x80 =>
  bindO (iteB x80
  (some true)
  (bindO (byte' p0 0) fun x86 =>
  letO (decide (x86 < 97)) fun x88 =>
  some x88)) fun j82 =>
  bindO (iteB j82
  (some true)
  (bindO (byte' p0 0) fun x94 =>
  letO (decide (122 < x94)) fun x96 =>
  some x96)) fun j90 =>
  iteB j90
  (some true)
  (bindO (F_event_isWord p0) fun x100 =>
  some x100)) fun g70 =>
  iteB g70
  (some false)
  (joinO (fun _ =>
  some true) fun k187 =>
  letO (p0.length : Int) fun x190 =>
  F_event_isName_L1 p0 k187 x190 0)

def F_internal_stringslite_HasPrefix (p0 : Str) (p1 : Str) : Option Bool :=
  bindO (letO (p0.length : Int) fun x18 =>
  letO (p1.length : Int) fun x20 =>
  letO (decide (x20 ≤ x18)) fun x22 =>
  iteB x22
  (letO (p1.length : Int) fun x25 =>
  bindO (sub' p0 0 x25) fun x27 =>
  letO (decide ((x27 : Str) = p1)) fun x29 =>
  some x29)
  (some false)) fun g15 =>
  some g15

def F_internal_stringslite_TrimPrefix (p0 : Str) (p1 : Str) : Option Str :=
  bindO (F_internal_stringslite_HasPrefix p0 p1) fun x17 =>
  iteB x17
  (letO (p1.length : Int) fun x23 =>
  bindO (sub' p0 x23 (p0.length : Int)) fun x25 =>
  some x25)
  (some p0)

def F_strings_TrimPrefix (p0 : Str) (p1 : Str) : Option Str :=
  bindO (F_internal_stringslite_TrimPrefix p0 p1) fun x4 =>
  some x4

def F_event_reader_fail (p0 : Option EventReader) (p1 : Int) : Option Unit :=
  none

def F_event_reader_run (p0 : EventReader) : Option EventReader :=
  bindO (X_Atoi p0.now.text) fun ⟨x15, x16⟩ =>
  bindO (F_event_isWord p0.now.text) fun x24 =>
  iteB x24
  (some (EventReader.mk p0.text p0.at_ (EventToken.mk 1 p0.now.at_ p0.now.n p0.now.text) p0.r))
  (bindO (F_event_isName p0.now.text) fun x32 =>
  iteB x32
  (some (EventReader.mk p0.text p0.at_ (EventToken.mk 2 p0.now.at_ p0.now.n p0.now.text) p0.r))
  (bindO (letO x16 fun x64 =>
  bindO (iteB x64
  (bindO (X_Itoa x15) fun x71 =>
  letO (decide ((x71 : Str) = p0.now.text)) fun x75 =>
  some x75)
  (some false)) fun j66 =>
  iteB j66
  (bindO (F_strings_TrimPrefix p0.now.text [45]) fun x79 =>
  letO (x79.length : Int) fun x83 =>
  letO (decide (x83 ≤ 16)) fun x85 =>
  some x85)
  (some false)) fun g61 =>
  iteB g61
  (some (EventReader.mk p0.text p0.at_ (EventToken.mk 3 p0.now.at_ x15 p0.now.text) p0.r))
  (bindO (F_event_reader_fail (some p0) 6) fun _ =>
  some p0)))

def F_strings_HasPrefix (p0 : Str) (p1 : Str) : Option Bool :=
  bindO (F_internal_stringslite_HasPrefix p0 p1) fun x4 =>
  some x4

def F_event_reader_advance_L1 (x14 : EventReader) : Int → Option Int := loopO fun k215 g211 =>
  bindO (letO (x14.text.length : Int) fun x256 =>
  letO (decide (g211 < x256)) fun x258 =>
  iteB x258
  (bindO (byte' x14.text g211) fun x261 =>
  bindO (F_event_nameByte x261) fun x264 =>
  some x264)
  (some false)) fun g251 =>
  iteB g251
  (letO (IntKind.i64.wrap (g211 + 1)) fun x269 =>
  k215 x269)
  (some g211)
def F_event_reader_advance_L2 (x14 : EventReader) (k470 : Unit → Option EventReader) (x478 : Int) : Int → Option EventReader := loopO fun k622 g618 =>
  letO (decide (g618 < x478)) fun x626 =>
  iteB x626
  (bindO (at' ([[60, 61], [33, 61], [62, 61], [60], [61], [62], [40], [41]] : List Str) g618) fun x662 =>
  bindO (sub' x14.text x14.at_ (x14.text.length : Int)) fun x674 =>
  bindO (F_strings_HasPrefix x674 x662) fun x677 =>
  iteB x677
  (letO (x662.length : Int) fun x683 =>
  letO (IntKind.i64.wrap (x14.at_ + x683)) fun x685 =>
  some (EventReader.mk x14.text x685 (EventToken.mk 4 x14.at_ 0 x662) x14.r))
  (letO (IntKind.i64.wrap (g618 + 1)) fun x690 =>
  k622 x690))
  (k470 ())
def F_event_reader_advance (p0 : EventReader) : Option EventReader :=
  bindO (F_event_reader_blanks p0) fun x14 =>
  letO (x14.text.length : Int) fun x35 =>
  letO (decide (x14.at_ = x35)) fun x37 =>
  iteB x37
  (some (EventReader.mk x14.text x14.at_ (EventToken.mk 0 x14.at_ 0 []) x14.r))
  (bindO (F_event_reader_advance_L1 x14 x14.at_) fun g127 =>
  letO (decide (x14.at_ < g127)) fun x296 =>
  iteB x296
  (bindO (sub' x14.text x14.at_ g127) fun x302 =>
  bindO (F_event_reader_run (EventReader.mk x14.text g127 (EventToken.mk 0 x14.at_ 0 x302) x14.r)) fun x307 =>
  some x307)
  (joinO (fun _ =>
  bindO (F_event_reader_fail (some (EventReader.mk x14.text g127 (EventToken.mk 0 x14.at_ 0 []) x14.r)) 6) fun _ =>
  some (EventReader.mk x14.text g127 (EventToken.mk 0 x14.at_ 0 []) x14.r)) fun k470 =>
  letO ([[60, 61], [33, 61], [62, 61], [60], [61], [62], [40], [41]] : List Str) fun _ =>
  letO ((([[60, 61], [33, 61], [62, 61], [60], [61], [62], [40], [41]] : List Str)).length : Int) fun x478 =>
  F_event_reader_advance_L2 x14 k470 x478 0))

def F_event_reader_is (p0 : Option EventReader) (p1 : Str) : Option Bool :=
  bindO (bindO p0 fun x78 =>
  letO (decide (x78.now.kind = 1)) fun x98 =>
  bindO (iteB x98
  (some true)
  (bindO p0 fun x104 =>
  letO (decide (x104.now.kind = 4)) fun x124 =>
  some x124)) fun j100 =>
  iteB j100
  (bindO p0 fun x127 =>
  letO (decide ((x127.now.text : Str) = p1)) fun x147 =>
  some x147)
  (some false)) fun g75 =>
  some g75

def F_event_reader_take (p0 : EventReader) (p1 : Int) : Option (EventToken × EventReader) :=
  bindO (letO (decide (p0.now.kind ≠ p1)) fun x30 =>
  iteB x30
  (bindO (F_event_reader_fail (some p0) 6) fun _ =>
  some ())
  (some ())) fun _ =>
  bindO (F_event_reader_advance p0) fun x44 =>
  some (p0.now, x44)

def F_event_reader_name (p0 : EventReader) : Option (Str × EventReader) :=
  bindO (F_event_reader_take p0 2) fun ⟨x15, x16⟩ =>
  some (x15.text, x16)

def F_event_reader_must (p0 : EventReader) (p1 : Str) : Option EventReader :=
  bindO (bindO (F_event_reader_is (some p0) p1) fun x34 =>
  letO (!x34) fun x38 =>
  iteB x38
  (bindO (F_event_reader_fail (some p0) 6) fun _ =>
  some ())
  (some ())) fun _ =>
  bindO (F_event_reader_advance p0) fun x46 =>
  some x46

def F_slices_Index___string_string__L1 (p0 : List Str) (p1 : Str) (k108 : Unit → Option Int) (x111 : Int) : Int → Option Int := loopO fun k211 g207 =>
  letO (decide (g207 < x111)) fun x215 =>
  iteB x215
  (bindO (at' p0 g207) fun x241 =>
  letO (decide ((p1 : Str) = x241)) fun x253 =>
  iteB x253
  (some g207)
  (letO (IntKind.i64.wrap (g207 + 1)) fun x257 =>
  k211 x257))
  (k108 ())
def F_slices_Index___string_string_ (p0 : List Str) (p1 : Str) : Option Int :=
  joinO (fun _ =>
  some (-1)) fun k108 =>
  letO (p0.length : Int) fun x111 =>
  F_slices_Index___string_string__L1 p0 p1 k108 x111 0

def F_slices_Contains___string_string_ (p0 : List Str) (p1 : Str) : Option Bool :=
  bindO (F_slices_Index___string_string_ p0 p1) fun x6 =>
  letO (decide (0 ≤ x6)) fun x10 =>
  some x10

def F_event_reader_begins (p0 : Option EventReader) : Option Bool :=
  bindO p0 fun x67 =>
  letO (decide (x67.now.kind = 2)) fun x88 =>
  iteB x88
  (some true)
  (letO (decide (x67.now.kind = 1)) fun x93 =>
  iteB x93
  (letO ([[116, 114, 117, 101], [102, 97, 108, 115, 101], [115, 116, 101, 97, 100, 121], [112, 104, 97, 115, 101], [114, 117, 108, 101], [110, 111, 116], [102, 111, 114], [119, 105, 116, 104, 105, 110], [99, 111, 117, 110, 116], [114, 105, 115, 101, 115], [115, 105, 110, 99, 101]] : List Str) fun _ =>
  bindO p0 fun x102 =>
  bindO (F_slices_Contains___string_string_ ([[116, 114, 117, 101], [102, 97, 108, 115, 101], [115, 116, 101, 97, 100, 121], [112, 104, 97, 115, 101], [114, 117, 108, 101], [110, 111, 116], [102, 111, 114], [119, 105, 116, 104, 105, 110], [99, 111, 117, 110, 116], [114, 105, 115, 101, 115], [115, 105, 110, 99, 101]] : List Str) x102.now.text) fun x123 =>
  some x123)
  (bindO (F_event_reader_is p0 [40]) fun x129 =>
  some x129))

def F_event_reader_number (p0 : EventReader) : Option (Int × EventReader) :=
  bindO (F_event_reader_take p0 3) fun ⟨x15, x16⟩ =>
  some (x15.n, x16)

def F_event_reader_comparison (p0 : EventReader) : Option (Cond × EventReader) :=
  bindO (F_event_reader_name p0) fun ⟨x20, x21⟩ =>
  bindO (F_slices_Index___string_string_ zJ.l x21.now.text) fun x42 =>
  bindO (bindO (letO (decide (x21.now.kind ≠ 4)) fun x71 =>
  iteB x71
  (some true)
  (letO (decide (x42 < 1)) fun x74 =>
  some x74)) fun g68 =>
  iteB g68
  (bindO (F_event_reader_fail (some x21) 6) fun _ =>
  some ())
  (some ())) fun _ =>
  bindO (F_event_reader_advance x21) fun x83 =>
  letO (decide (x83.now.kind = 2)) fun x115 =>
  iteB x115
  (bindO (F_event_reader_name x83) fun ⟨x119, x120⟩ =>
  some (Cond.mk 4 x20 x119 x42 0 0 [], x120))
  (bindO (F_event_reader_number x83) fun ⟨x136, x137⟩ =>
  some (Cond.mk 3 x20 [] x42 x136 0 [], x137))



def F_event_reader_part_1_pdd_L1 (rfA : EventReader → Int → Option (Cond × EventReader)) (p0 : Int) (c1 : Int) : (List Cond) × Int × Str × Int × Int × Int × Int × Str × (List Str) × (List MoveT) × (List Rule) → Option ((List Cond) × Str × Int × Int × Int × Int × Str × (List Str) × (List MoveT) × (List Rule)) := loopO fun k344 ⟨g322, g324, g325, g326, g327, g328, g329, g330, g332, g335, g338⟩ =>
  letO (decide (g324 < p0)) fun x348 =>
  iteB x348
  (letO (IntKind.i64.wrap (c1 + 1)) fun x378 =>
  bindO (rfA (EventReader.mk g325 g326 (EventToken.mk g327 g328 g329 g330) (Rules.mk g332 g335 g338)) x378) fun ⟨x380, x381⟩ =>
  letO ([x380] : List Cond) fun _ =>
  bindO (app' 88 g322 ([x380] : List Cond)) fun x398 =>
  letO (IntKind.i64.wrap (g324 + 1)) fun x402 =>
  k344 (x398, x402, x381.text, x381.at_, x381.now.kind, x381.now.at_, x381.now.n, x381.now.text, x381.r.Phases, x381.r.Moves, x381.r.Rules))
  (some (g322, g325, g326, g327, g328, g329, g330, g332, g335, g338))
def F_event_reader_part_1_pdd (rfA : EventReader → Int → Option (Cond × EventReader)) (p0 : Int) (c0p : EventReader) (c1 : Int) : Option ((List Cond) × EventReader) :=
  bindO (F_event_reader_part_1_pdd_L1 rfA p0 c1 ([], 0, c0p.text, c0p.at_, c0p.now.kind, c0p.now.at_, c0p.now.n, c0p.now.text, c0p.r.Phases, c0p.r.Moves, c0p.r.Rules)) fun ⟨g165, g167, g168, g169, g170, g171, g172, g174, g177, g180⟩ =>
  some (g165, EventReader.mk g167 g168 (EventToken.mk g169 g170 g171 g172) (Rules.mk g174 g177 g180))

def F_event_reader_part_B (rfB : EventReader → Int → Option (Cond × EventReader)) (rfA : EventReader → Int → Option (Cond × EventReader)) (p0 : EventReader) (p1 : Int) : Option (Cond × EventReader) :=
  bindO (bindO (F_event_reader_begins (some p0)) fun x46 =>
  letO (!x46) fun x50 =>
  iteB x50
  (bindO (F_event_reader_fail (some p0) 6) fun _ =>
  some ())
  (some ())) fun _ =>
  bindO (letO (decide (60 ≤ p1)) fun x71 =>
  iteB x71
  (bindO (F_event_reader_fail (some p0) 3) fun _ =>
  some ())
  (some ())) fun _ =>
  letO (decide (p0.now.kind = 2)) fun x100 =>
  iteB x100
  (bindO (F_event_reader_comparison p0) fun ⟨x104, x105⟩ =>
  some (x104, x105))
  (bindO (F_event_reader_advance p0) fun x120 =>
  letO (decide ((p0.now.text : Str) = [116, 114, 117, 101])) fun x378 =>
  iteB x378
  (some (Cond.mk 1 [] [] 0 0 0 [], x120))
  (letO (decide ((p0.now.text : Str) = [102, 97, 108, 115, 101])) fun x385 =>
  iteB x385
  (some (Cond.mk 2 [] [] 0 0 0 [], x120))
  (letO (decide ((p0.now.text : Str) = [115, 116, 101, 97, 100, 121])) fun x392 =>
  iteB x392
  (none)
  (letO (decide ((p0.now.text : Str) = [112, 104, 97, 115, 101])) fun x397 =>
  iteB x397
  (bindO (F_event_reader_name x120) fun ⟨x401, x402⟩ =>
  some (Cond.mk 6 x401 [] 0 0 0 [], x402))
  (letO (decide ((p0.now.text : Str) = [114, 117, 108, 101])) fun x415 =>
  iteB x415
  (bindO (F_event_reader_name x120) fun ⟨x419, x420⟩ =>
  some (Cond.mk 7 x419 [] 0 0 0 [], x420))
  (letO (decide ((p0.now.text : Str) = [110, 111, 116])) fun x433 =>
  iteB x433
  (bindO (F_event_reader_part_1_pdd rfA 1 x120 p1) fun ⟨x437, x438⟩ =>
  some (Cond.mk 8 [] [] 0 0 0 x437, x438))
  (letO (decide ((p0.now.text : Str) = [102, 111, 114])) fun x455 =>
  iteB x455
  (bindO (F_event_reader_number x120) fun ⟨x459, x460⟩ =>
  bindO (F_event_reader_part_1_pdd rfA 1 x460 p1) fun ⟨x470, x471⟩ =>
  some (Cond.mk 11 [] [] 0 0 x459 x470, x471))
  (letO (decide ((p0.now.text : Str) = [119, 105, 116, 104, 105, 110])) fun x488 =>
  iteB x488
  (bindO (F_event_reader_number x120) fun ⟨x492, x493⟩ =>
  bindO (F_event_reader_part_1_pdd rfA 1 x493 p1) fun ⟨x503, x504⟩ =>
  some (Cond.mk 12 [] [] 0 0 x492 x503, x504))
  (letO (decide ((p0.now.text : Str) = [99, 111, 117, 110, 116])) fun x521 =>
  iteB x521
  (bindO (F_event_reader_number x120) fun ⟨x525, x526⟩ =>
  bindO (F_event_reader_must x526 [111, 102]) fun x541 =>
  bindO (F_event_reader_number x541) fun ⟨x552, x553⟩ =>
  bindO (F_event_reader_part_1_pdd rfA 1 x553 p1) fun ⟨x563, x564⟩ =>
  some (Cond.mk 13 [] [] 0 x525 x552 x563, x564))
  (letO (decide ((p0.now.text : Str) = [114, 105, 115, 101, 115])) fun x581 =>
  iteB x581
  (bindO (F_event_reader_part_1_pdd rfA 1 x120 p1) fun ⟨x585, x586⟩ =>
  some (Cond.mk 15 [] [] 0 0 0 x585, x586))
  (letO (decide ((p0.now.text : Str) = [115, 105, 110, 99, 101])) fun x603 =>
  iteB x603
  (bindO (F_event_reader_part_1_pdd rfA 2 x120 p1) fun ⟨x607, x608⟩ =>
  some (Cond.mk 14 [] [] 0 0 0 x607, x608))
  (letO (IntKind.i64.wrap (p1 + 1)) fun x625 =>
  bindO (rfB x120 x625) fun ⟨x627, x628⟩ =>
  bindO (F_event_reader_must x628 [41]) fun x645 =>
  some (x627, x645)))))))))))))

def F_event_reader_part_R (rfB : EventReader → Int → Option (Cond × EventReader)) : Nat → EventReader → Int → Option (Cond × EventReader)
  | 0 => fun _ _ => none
  | n + 1 => F_event_reader_part_B rfB (F_event_reader_part_R rfB n)
def F_event_reader_part (rfB : EventReader → Int → Option (Cond × EventReader)) : EventReader → Int → Option (Cond × EventReader) := F_event_reader_part_R rfB FU

def F_event_reader_cond_1_1_pdd (rfB : EventReader → Int → Option (Cond × EventReader)) (c0p : EventReader) (c1 : Int) : Option (Cond × EventReader) :=
  bindO (F_event_reader_part rfB c0p c1) fun ⟨x24, x25⟩ =>
  some (x24, x25)

def F_event_reader_list_event_reader_cond_1_1_pa0d_L1 (rfB : EventReader → Int → Option (Cond × EventReader)) (p1 : Str) (p3c1 : Int) : (List Cond) × Str × Int × Int × Int × Int × Str × (List Str) × (List MoveT) × (List Rule) → Option ((List Cond) × Str × Int × Int × Int × Int × Str × (List Str) × (List MoveT) × (List Rule)) := loopO fun k322 ⟨g302, g304, g305, g306, g307, g308, g309, g311, g314, g317⟩ =>
  bindO (F_event_reader_is (some (EventReader.mk g304 g305 (EventToken.mk g306 g307 g308 g309) (Rules.mk g311 g314 g317))) p1) fun x337 =>
  iteB x337
  (bindO (F_event_reader_advance (EventReader.mk g304 g305 (EventToken.mk g306 g307 g308 g309) (Rules.mk g311 g314 g317))) fun x343 =>
  bindO (F_event_reader_cond_1_1_pdd rfB x343 p3c1) fun ⟨x353, x354⟩ =>
  letO ([x353] : List Cond) fun _ =>
  bindO (app' 88 g302 ([x353] : List Cond)) fun x371 =>
  k322 (x371, x354.text, x354.at_, x354.now.kind, x354.now.at_, x354.now.n, x354.now.text, x354.r.Phases, x354.r.Moves, x354.r.Rules))
  (some (g302, g304, g305, g306, g307, g308, g309, g311, g314, g317))
def F_event_reader_list_event_reader_cond_1_1_pa0d (rfB : EventReader → Int → Option (Cond × EventReader)) (p0 : EventReader) (p1 : Str) (p2 : Int) (p3c1 : Int) : Option (Cond × EventReader) :=
  bindO (F_event_reader_cond_1_1_pdd rfB p0 p3c1) fun ⟨x24, x25⟩ =>
  letO ([x24] : List Cond) fun _ =>
  bindO (F_event_reader_list_event_reader_cond_1_1_pa0d_L1 rfB p1 p3c1 (([x24] : List Cond), x25.text, x25.at_, x25.now.kind, x25.now.at_, x25.now.n, x25.now.text, x25.r.Phases, x25.r.Moves, x25.r.Rules)) fun ⟨g165, g167, g168, g169, g170, g171, g172, g174, g177, g180⟩ =>
  letO (g165.length : Int) fun x402 =>
  letO (decide (x402 = 1)) fun x407 =>
  iteB x407
  (bindO (at' g165 0) fun x411 =>
  some (x411, EventReader.mk g167 g168 (EventToken.mk g169 g170 g171 g172) (Rules.mk g174 g177 g180)))
  (some (Cond.mk p2 [] [] 0 0 0 g165, EventReader.mk g167 g168 (EventToken.mk g169 g170 g171 g172) (Rules.mk g174 g177 g180)))

def F_event_reader_cond_1_pdd (rfB : EventReader → Int → Option (Cond × EventReader)) (c0p : EventReader) (c1 : Int) : Option (Cond × EventReader) :=
  bindO (F_event_reader_list_event_reader_cond_1_1_pa0d rfB c0p [97, 110, 100] 9 c1) fun ⟨x24, x25⟩ =>
  some (x24, x25)

def F_event_reader_list_event_reader_cond_1_pa0d_L1 (rfB : EventReader → Int → Option (Cond × EventReader)) (p1 : Str) (p3c1 : Int) : (List Cond) × Str × Int × Int × Int × Int × Str × (List Str) × (List MoveT) × (List Rule) → Option ((List Cond) × Str × Int × Int × Int × Int × Str × (List Str) × (List MoveT) × (List Rule)) := loopO fun k322 ⟨g302, g304, g305, g306, g307, g308, g309, g311, g314, g317⟩ =>
  bindO (F_event_reader_is (some (EventReader.mk g304 g305 (EventToken.mk g306 g307 g308 g309) (Rules.mk g311 g314 g317))) p1) fun x337 =>
  iteB x337
  (bindO (F_event_reader_advance (EventReader.mk g304 g305 (EventToken.mk g306 g307 g308 g309) (Rules.mk g311 g314 g317))) fun x343 =>
  bindO (F_event_reader_cond_1_pdd rfB x343 p3c1) fun ⟨x353, x354⟩ =>
  letO ([x353] : List Cond) fun _ =>
  bindO (app' 88 g302 ([x353] : List Cond)) fun x371 =>
  k322 (x371, x354.text, x354.at_, x354.now.kind, x354.now.at_, x354.now.n, x354.now.text, x354.r.Phases, x354.r.Moves, x354.r.Rules))
  (some (g302, g304, g305, g306, g307, g308, g309, g311, g314, g317))
def F_event_reader_list_event_reader_cond_1_pa0d (rfB : EventReader → Int → Option (Cond × EventReader)) (p0 : EventReader) (p1 : Str) (p2 : Int) (p3c1 : Int) : Option (Cond × EventReader) :=
  bindO (F_event_reader_cond_1_pdd rfB p0 p3c1) fun ⟨x24, x25⟩ =>
  letO ([x24] : List Cond) fun _ =>
  bindO (F_event_reader_list_event_reader_cond_1_pa0d_L1 rfB p1 p3c1 (([x24] : List Cond), x25.text, x25.at_, x25.now.kind, x25.now.at_, x25.now.n, x25.now.text, x25.r.Phases, x25.r.Moves, x25.r.Rules)) fun ⟨g165, g167, g168, g169, g170, g171, g172, g174, g177, g180⟩ =>
  letO (g165.length : Int) fun x402 =>
  letO (decide (x402 = 1)) fun x407 =>
  iteB x407
  (bindO (at' g165 0) fun x411 =>
  some (x411, EventReader.mk g167 g168 (EventToken.mk g169 g170 g171 g172) (Rules.mk g174 g177 g180)))
  (some (Cond.mk p2 [] [] 0 0 0 g165, EventReader.mk g167 g168 (EventToken.mk g169 g170 g171 g172) (Rules.mk g174 g177 g180)))

def F_event_reader_cond_B (rfB : EventReader → Int → Option (Cond × EventReader)) (p0 : EventReader) (p1 : Int) : Option (Cond × EventReader) :=
  bindO (F_event_reader_list_event_reader_cond_1_pa0d rfB p0 [111, 114] 10 p1) fun ⟨x26, x27⟩ =>
  some (x26, x27)

def F_event_reader_cond_R : Nat → EventReader → Int → Option (Cond × EventReader)
  | 0 => fun _ _ => none
  | n + 1 => F_event_reader_cond_B (F_event_reader_cond_R n)
def F_event_reader_cond : EventReader → Int → Option (Cond × EventReader) := F_event_reader_cond_R FU

def F_event_reader_rules_L1 (x106 : EventReader) : Unit → Option (Str × Int × Int × Int × Int × Str × (List Str) × (List MoveT) × (List Rule)) := loopO fun k175 _ =>
  bindO (F_event_reader_is (some x106) [112, 104, 97, 115, 101]) fun x190 =>
  iteB x190
  (bindO (F_event_reader_advance x106) fun x196 =>
  none)
  (some (x106.text, x106.at_, x106.now.kind, x106.now.at_, x106.now.n, x106.now.text, x106.r.Phases, x106.r.Moves, x106.r.Rules))
def F_event_reader_rules_L2 : Str × Int × Int × Int × Int × Str × (List Str) × (List MoveT) × (List Rule) → Option (Str × Int × Int × Int × Int × Str × (List Str) × (List MoveT) × (List Rule)) := loopO fun k654 ⟨g636, g637, g638, g639, g640, g641, g643, g646, g649⟩ =>
  bindO (F_event_reader_is (some (EventReader.mk g636 g637 (EventToken.mk g638 g639 g640 g641) (Rules.mk g643 g646 g649))) [109, 111, 118, 101]) fun x669 =>
  iteB x669
  (bindO (F_event_reader_advance (EventReader.mk g636 g637 (EventToken.mk g638 g639 g640 g641) (Rules.mk g643 g646 g649))) fun x675 =>
  bindO (F_event_reader_name x675) fun ⟨x686, x687⟩ =>
  bindO (F_event_reader_name x687) fun ⟨x697, x698⟩ =>
  bindO (F_event_reader_must x698 [105, 102]) fun x713 =>
  bindO (F_event_reader_cond x713 0) fun ⟨x724, x725⟩ =>
  letO ([MoveT.mk x686 x697 x724] : List MoveT) fun _ =>
  bindO (app' 120 x725.r.Moves ([MoveT.mk x686 x697 x724] : List MoveT)) fun x745 =>
  k654 (x725.text, x725.at_, x725.now.kind, x725.now.at_, x725.now.n, x725.now.text, x725.r.Phases, x745, x725.r.Rules))
  (some (g636, g637, g638, g639, g640, g641, g643, g646, g649))
def F_event_reader_rules_L3 : Str × Int × Int × Int × Int × Str × (List Str) × (List MoveT) × (List Rule) → Option (Str × Int × Int × Int × Int × Str × (List Str) × (List MoveT) × (List Rule)) := loopO fun k1155 ⟨g1137, g1138, g1139, g1140, g1141, g1142, g1144, g1147, g1150⟩ =>
  bindO (F_event_reader_is (some (EventReader.mk g1137 g1138 (EventToken.mk g1139 g1140 g1141 g1142) (Rules.mk g1144 g1147 g1150))) [114, 117, 108, 101]) fun x1170 =>
  iteB x1170
  (bindO (F_event_reader_advance (EventReader.mk g1137 g1138 (EventToken.mk g1139 g1140 g1141 g1142) (Rules.mk g1144 g1147 g1150))) fun x1176 =>
  bindO (F_event_reader_name x1176) fun ⟨x1187, x1188⟩ =>
  bindO (F_event_reader_must x1188 [105, 102]) fun x1203 =>
  bindO (F_event_reader_cond x1203 0) fun ⟨x1214, x1215⟩ =>
  letO ([Rule.mk x1187 x1214] : List Rule) fun _ =>
  bindO (app' 104 x1215.r.Rules ([Rule.mk x1187 x1214] : List Rule)) fun x1235 =>
  k1155 (x1215.text, x1215.at_, x1215.now.kind, x1215.now.at_, x1215.now.n, x1215.now.text, x1215.r.Phases, x1215.r.Moves, x1235))
  (some (g1137, g1138, g1139, g1140, g1141, g1142, g1144, g1147, g1150))
def F_event_reader_rules (p0 : EventReader) : Option EventReader :=
  bindO (bindO (F_event_reader_advance p0) fun x106 =>
  F_event_reader_rules_L1 x106 ()) fun ⟨g87, g88, g89, g90, g91, g92, g94, g97, g100⟩ =>
  bindO (F_event_reader_rules_L2 (g87, g88, g89, g90, g91, g92, g94, g97, g100)) fun ⟨g415, g416, g417, g418, g419, g420, g422, g425, g428⟩ =>
  bindO (F_event_reader_rules_L3 (g415, g416, g417, g418, g419, g420, g422, g425, g428)) fun ⟨g938, g939, g940, g941, g942, g943, g945, g948, g951⟩ =>
  letO (decide (g940 ≠ 0)) fun x1242 =>
  iteB x1242
  (bindO (F_event_reader_fail (some (EventReader.mk g938 g939 (EventToken.mk g940 g941 g942 g943) (Rules.mk g945 g948 g951))) 6) fun _ =>
  some (EventReader.mk g938 g939 (EventToken.mk g940 g941 g942 g943) (Rules.mk g945 g948 g951)))
  (some (EventReader.mk g938 g939 (EventToken.mk g940 g941 g942 g943) (Rules.mk g945 g948 g951)))

def F_caught (p0 : EventReader) : Option (EventFault × EventReader) := bindO (F_event_reader_rules p0) fun x => some (⟨0, 0⟩, x)


def F_event_small_B_L1 (rfC : Cond → Int → Int → Option (Bool × Int)) (p0 : Cond) (p1 : Int) (k201 : Int → Option (Bool × Int)) (x204 : Int) : Int × Int → Option (Bool × Int) := loopO fun k362 ⟨g357, g358⟩ =>
  letO (decide (g357 < x204)) fun x366 =>
  iteB x366
  (bindO (at' p0.Kids g357) fun x405 =>
  letO (IntKind.i64.wrap (p1 - 1)) fun x425 =>
  bindO (rfC x405 x425 g358) fun ⟨x427, x428⟩ =>
  letO (!x427) fun x432 =>
  iteB x432
  (some (false, x428))
  (letO (IntKind.i64.wrap (g357 + 1)) fun x436 =>
  k362 (x436, x428)))
  (k201 g358)
def F_event_small_B (rfC : Cond → Int → Int → Option (Bool × Int)) (p0 : Cond) (p1 : Int) (p2 : Int) : Option (Bool × Int) :=
  letO (IntKind.i64.wrap (p2 + 1)) fun x10 =>
  bindO (letO (decide (p1 = 0)) fun x32 =>
  iteB x32
  (some true)
  (letO (decide (200 < x10)) fun x35 =>
  some x35)) fun g29 =>
  iteB g29
  (some (false, x10))
  (joinO (fun g199 =>
  some (true, g199)) fun k201 =>
  letO (p0.Kids.length : Int) fun x204 =>
  F_event_small_B_L1 rfC p0 p1 k201 x204 (0, x10))

def F_event_small_R : Nat → Cond → Int → Int → Option (Bool × Int)
  | 0 => fun _ _ _ => none
  | n + 1 => F_event_small_B (F_event_small_R n)
def F_event_small : Cond → Int → Int → Option (Bool × Int) := F_event_small_R FU

def F_event_fieldsOf (p0 : Int) : Option (EventFields × Bool) :=
  bindO (letO (decide (p0 = 1)) fun x108 =>
  iteB x108
  (some x108)
  (letO (decide (p0 = 2)) fun x111 =>
  some x111)) fun g104 =>
  iteB g104
  (some (EventFields.mk false false false false false 0 0, true))
  (letO (decide (p0 = 3)) fun x117 =>
  iteB x117
  (some (EventFields.mk true false true true false 0 0, true))
  (letO (decide (p0 = 4)) fun x123 =>
  iteB x123
  (some (EventFields.mk true true true false false 0 0, true))
  (letO (decide (p0 = 5)) fun x129 =>
  iteB x129
  (some (EventFields.mk true false false true true 0 0, true))
  (bindO (letO (decide (p0 = 6)) fun x144 =>
  iteB x144
  (some x144)
  (letO (decide (p0 = 7)) fun x147 =>
  some x147)) fun g140 =>
  iteB g140
  (some (EventFields.mk true false false false false 0 0, true))
  (bindO (letO (decide (p0 = 8)) fun x162 =>
  iteB x162
  (some x162)
  (letO (decide (p0 = 15)) fun x165 =>
  some x165)) fun g158 =>
  iteB g158
  (some (EventFields.mk false false false false false 1 1, true))
  (bindO (letO (decide (p0 = 9)) fun x180 =>
  iteB x180
  (some x180)
  (letO (decide (p0 = 10)) fun x183 =>
  some x183)) fun g176 =>
  iteB g176
  (some (EventFields.mk false false false false false 2 200, true))
  (bindO (letO (decide (p0 = 11)) fun x198 =>
  iteB x198
  (some x198)
  (letO (decide (p0 = 12)) fun x201 =>
  some x201)) fun g194 =>
  iteB g194
  (some (EventFields.mk false false false false true 1 1, true))
  (letO (decide (p0 = 13)) fun x207 =>
  iteB x207
  (some (EventFields.mk false false false true true 1 1, true))
  (letO (decide (p0 = 14)) fun x213 =>
  iteB x213
  (some (EventFields.mk false false false false false 2 2, true))
  (some (EventFields.mk false false false false false 0 0, false)))))))))))

def F_event_checkOne (p0 : Cond) : Option Int :=
  bindO (F_event_fieldsOf p0.Kind) fun ⟨x9, x10⟩ =>
  letO (!x10) fun x25 =>
  iteB x25
  (some 7)
  (bindO (letO (!x9.name) fun x152 =>
  bindO (iteB x152
  (letO (decide ((p0.Name : Str) ≠ [])) fun x158 =>
  some x158)
  (some false)) fun j154 =>
  bindO (iteB j154
  (some true)
  (letO (!x9.other) fun x164 =>
  iteB x164
  (letO (decide ((p0.Other : Str) ≠ [])) fun x167 =>
  some x167)
  (some false))) fun j160 =>
  bindO (iteB j160
  (some true)
  (letO (!x9.op) fun x173 =>
  iteB x173
  (letO (decide (p0.Op ≠ 0)) fun x176 =>
  some x176)
  (some false))) fun j169 =>
  bindO (iteB j169
  (some true)
  (letO (!x9.n) fun x182 =>
  iteB x182
  (letO (decide (p0.N ≠ 0)) fun x185 =>
  some x185)
  (some false))) fun j178 =>
  bindO (iteB j178
  (some true)
  (letO (!x9.frames) fun x191 =>
  iteB x191
  (letO (decide (p0.Frames ≠ 0)) fun x194 =>
  some x194)
  (some false))) fun j187 =>
  iteB j187
  (some true)
  (letO (p0.Kids.length : Int) fun x197 =>
  bindO (F_event_within x197 x9.least x9.most) fun x203 =>
  letO (!x203) fun x207 =>
  some x207)) fun g149 =>
  iteB g149
  (some 2)
  (bindO (bindO (iteB x9.name
  (bindO (F_event_isName p0.Name) fun x328 =>
  letO (!x328) fun x332 =>
  some x332)
  (some false)) fun j323 =>
  iteB j323
  (some true)
  (iteB x9.other
  (bindO (F_event_isName p0.Other) fun x337 =>
  letO (!x337) fun x341 =>
  some x341)
  (some false))) fun g320 =>
  iteB g320
  (some 8)
  (bindO (iteB x9.op
  (bindO (F_event_within p0.Op 1 6) fun x358 =>
  letO (!x358) fun x362 =>
  some x362)
  (some false)) fun g353 =>
  iteB g353
  (some 7)
  (bindO (iteB x9.frames
  (bindO (F_event_within p0.Frames 1 4096) fun x379 =>
  letO (!x379) fun x383 =>
  some x383)
  (some false)) fun g374 =>
  iteB g374
  (some 9)
  (bindO (letO (decide (p0.Kind = 13)) fun x400 =>
  iteB x400
  (bindO (F_event_within p0.N 1 p0.Frames) fun x404 =>
  letO (!x404) fun x408 =>
  some x408)
  (some false)) fun g397 =>
  iteB g397
  (some 9)
  (bindO (bindO (iteB x9.n
  (bindO (F_event_within p0.N (-1125899906842624) 1125899906842624) fun x437 =>
  letO (!x437) fun x441 =>
  some x441)
  (some false)) fun j432 =>
  iteB j432
  (some true)
  (letO (decide (p0.Kind = 5)) fun x444 =>
  iteB x444
  (letO (decide (p0.N < 0)) fun x447 =>
  some x447)
  (some false))) fun g429 =>
  iteB g429
  (some 9)
  (some 0)))))))


def F_event_each_event_checkOne_B_L1 (rfD : Cond → Option Int) (p0 : Cond) (k186 : Unit → Option Int) (x189 : Int) : Int → Option Int := loopO fun k341 g337 =>
  letO (decide (g337 < x189)) fun x345 =>
  iteB x345
  (bindO (at' p0.Kids g337) fun x383 =>
  bindO (rfD x383) fun x404 =>
  letO (decide (x404 ≠ 0)) fun x409 =>
  iteB x409
  (some x404)
  (letO (IntKind.i64.wrap (g337 + 1)) fun x413 =>
  k341 x413))
  (k186 ())
def F_event_each_event_checkOne_B (rfD : Cond → Option Int) (p0 : Cond) : Option Int :=
  bindO (F_event_checkOne p0) fun x21 =>
  letO (decide (x21 ≠ 0)) fun x26 =>
  iteB x26
  (some x21)
  (joinO (fun _ =>
  some 0) fun k186 =>
  letO (p0.Kids.length : Int) fun x189 =>
  F_event_each_event_checkOne_B_L1 rfD p0 k186 x189 0)

def F_event_each_event_checkOne_R : Nat → Cond → Option Int
  | 0 => fun _ => none
  | n + 1 => F_event_each_event_checkOne_B (F_event_each_event_checkOne_R n)
def F_event_each_event_checkOne : Cond → Option Int := F_event_each_event_checkOne_R FU

def F_event_CheckCond (p0 : Cond) : Option Int :=
  bindO (F_event_small p0 20 0) fun ⟨x24, x25⟩ =>
  letO (!x24) fun x29 =>
  iteB x29
  (some 3)
  (bindO (F_event_each_event_checkOne p0) fun x35 =>
  some x35)


def F_event_inwardAll_L1 (rfE : Cond → Bool → Option Cond) (p0 : List Cond) (p1 : Bool) (x189 : Int) : (List Cond) × Int → Option (List Cond) := loopO fun k366 ⟨g359, g361⟩ =>
  letO (decide (g361 < x189)) fun x370 =>
  iteB x370
  (bindO (at' p0 g361) fun x412 =>
  bindO (rfE x412 p1) fun x431 =>
  letO ([x431] : List Cond) fun _ =>
  bindO (app' 88 g359 ([x431] : List Cond)) fun x442 =>
  letO (IntKind.i64.wrap (g361 + 1)) fun x446 =>
  k366 (x442, x446))
  (some g359)
def F_event_inwardAll (rfE : Cond → Bool → Option Cond) (p0 : List Cond) (p1 : Bool) : Option (List Cond) :=
  bindO (letO (p0.length : Int) fun x189 =>
  F_event_inwardAll_L1 rfE p0 p1 x189 ([], 0)) fun g184 =>
  some g184

def F_event_contrary (p0 : Int) : Option Int :=
  letO (decide (p0 = 1)) fun x31 =>
  iteB x31
  (some 5)
  (letO (decide (p0 = 2)) fun x36 =>
  iteB x36
  (some 6)
  (letO (decide (p0 = 3)) fun x41 =>
  iteB x41
  (some 4)
  (letO (decide (p0 = 4)) fun x46 =>
  iteB x46
  (some 3)
  (letO (decide (p0 = 5)) fun x51 =>
  iteB x51
  (some 1)
  (some 2)))))

def F_event_inward_B (rfE : Cond → Bool → Option Cond) (p0 : Cond) (p1 : Bool) : Option Cond :=
  bindO (mput ([] : List (Int × Int)) 1 2) fun x15 =>
  bindO (mput x15 2 1) fun x18 =>
  bindO (mput x18 9 10) fun x21 =>
  bindO (mput x21 10 9) fun x24 =>
  bindO (mput x24 11 12) fun x27 =>
  bindO (mput x27 12 11) fun x30 =>
  letO (decide (p0.Kind = 8)) fun x123 =>
  iteB x123
  (bindO (at' p0.Kids 0) fun x127 =>
  letO (!p1) fun x142 =>
  bindO (rfE x127 x142) fun x144 =>
  some x144)
  (bindO (letO (decide (p0.Kind = 6)) fun x173 =>
  iteB x173
  (some x173)
  (letO (decide (p0.Kind = 7)) fun x177 =>
  iteB x177
  (some x177)
  (letO (decide (p0.Kind = 5)) fun x181 =>
  iteB x181
  (some x181)
  (letO (decide (p0.Kind = 14)) fun x185 =>
  iteB x185
  (some x185)
  (letO (decide (p0.Kind = 15)) fun x188 =>
  some x188))))) fun g169 =>
  iteB g169
  (bindO (F_event_inwardAll rfE p0.Kids false) fun x192 =>
  iteB p1
  (letO ([Cond.mk p0.Kind p0.Name p0.Other p0.Op p0.N p0.Frames x192] : List Cond) fun _ =>
  some (Cond.mk 8 [] [] 0 0 0 ([Cond.mk p0.Kind p0.Name p0.Other p0.Op p0.N p0.Frames x192] : List Cond)))
  (some (Cond.mk p0.Kind p0.Name p0.Other p0.Op p0.N p0.Frames x192)))
  (bindO (F_event_inwardAll rfE p0.Kids p1) fun x227 =>
  letO (!p1) fun x242 =>
  iteB x242
  (some (Cond.mk p0.Kind p0.Name p0.Other p0.Op p0.N p0.Frames x227))
  (bindO (bindO (letO (decide (p0.Kind = 3)) fun x293 =>
  iteB x293
  (some x293)
  (letO (decide (p0.Kind = 4)) fun x296 =>
  some x296)) fun g289 =>
  iteB g289
  (bindO (F_event_contrary p0.Op) fun x300 =>
  some (p0.Kind, x300, p0.N))
  (letO (decide (p0.Kind = 13)) fun x306 =>
  iteB x306
  (letO (IntKind.i64.wrap (p0.Frames + 1)) fun x309 =>
  letO (IntKind.i64.wrap (x309 - p0.N)) fun x311 =>
  some (p0.Kind, p0.Op, x311))
  (letO (mget x30 p0.Kind 0) fun x314 =>
  some (x314, p0.Op, p0.N)))) fun ⟨g276, g277, g278⟩ =>
  some (Cond.mk g276 p0.Name p0.Other g277 g278 p0.Frames x227))))

def F_event_inward_R : Nat → Cond → Bool → Option Cond
  | 0 => fun _ _ => none
  | n + 1 => F_event_inward_B (F_event_inward_R n)
def F_event_inward : Cond → Bool → Option Cond := F_event_inward_R FU

def F_event_Inward (p0 : Cond) : Option (Cond × Int) :=
  bindO (F_event_CheckCond p0) fun x26 =>
  letO (decide (x26 ≠ 0)) fun x31 =>
  iteB x31
  (some (Cond.mk 0 [] [] 0 0 0 [], x26))
  (bindO (F_event_inward p0 false) fun x38 =>
  bindO (F_event_CheckCond x38) fun x63 =>
  letO (decide (x63 ≠ 0)) fun x68 =>
  iteB x68
  (some (Cond.mk 0 [] [] 0 0 0 [], x63))
  (some (x38, 0)))

def F_internal_strconv_AppendInt (p0 : List Int) (p1 : Int) (p2 : Int) : Option (List Int) :=
  letO (IntKind.u64.wrap p1) fun x7 =>
  bindO (letO (decide (p1 < 0)) fun x32 =>
  iteB x32
  (letO ([45] : List Int) fun _ =>
  bindO (app' 1 p0 ([45] : List Int)) fun x41 =>
  letO (IntKind.u64.wrap (-x7)) fun x45 =>
  some (x41, x45))
  (some (p0, x7))) fun ⟨g25, g27⟩ =>
  bindO (X_AppendUint g25 g27 p2) fun x48 =>
  some x48

def F_strconv_AppendInt (p0 : List Int) (p1 : Int) (p2 : Int) : Option (List Int) :=
  bindO (F_internal_strconv_AppendInt p0 p1 p2) fun x7 =>
  some x7

def F_ref0_Ink_Int (p0 : Orangeboxref0Ink) (p1 : Int) : Option Orangeboxref0Ink :=
  bindO (F_strconv_AppendInt p0.out p1 10) fun x8 =>
  letO ([32] : List Int) fun _ =>
  bindO (app' 1 x8 ([32] : List Int)) fun x20 =>
  some (Orangeboxref0Ink.mk x20)

def F_ref0_Ink_Ints_L1 (p1 : List Int) : Int × (List Int) → Option Orangeboxref0Ink := loopO fun k149 ⟨g142, g144⟩ =>
  letO (p1.length : Int) fun x163 =>
  letO (decide (g142 < x163)) fun x168 =>
  iteB x168
  (bindO (at' p1 g142) fun x190 =>
  bindO (F_ref0_Ink_Int (Orangeboxref0Ink.mk g144) x190) fun x202 =>
  letO (IntKind.i64.wrap (g142 + 1)) fun x208 =>
  k149 (x208, x202.out))
  (some (Orangeboxref0Ink.mk g144))
def F_ref0_Ink_Ints (p0 : Orangeboxref0Ink) (p1 : List Int) : Option Orangeboxref0Ink :=
  letO (p1.length : Int) fun x10 =>
  bindO (F_ref0_Ink_Int p0 x10) fun x15 =>
  F_ref0_Ink_Ints_L1 p1 (0, x15.out)

def F_ref0_Ink_Text (p0 : Orangeboxref0Ink) (p1 : Str) : Option Orangeboxref0Ink :=
  letO (p1.length : Int) fun x8 =>
  bindO (F_ref0_Ink_Int p0 x8) fun x10 =>
  bindO (app' 1 x10.out (nums p1)) fun x16 =>
  some (Orangeboxref0Ink.mk x16)

def F_ref0_Ink_Texts_L1 (p1 : List Str) : Int × (List Int) → Option Orangeboxref0Ink := loopO fun k149 ⟨g142, g144⟩ =>
  letO (p1.length : Int) fun x163 =>
  letO (decide (g142 < x163)) fun x168 =>
  iteB x168
  (bindO (at' p1 g142) fun x190 =>
  bindO (F_ref0_Ink_Text (Orangeboxref0Ink.mk g144) x190) fun x202 =>
  letO (IntKind.i64.wrap (g142 + 1)) fun x208 =>
  k149 (x208, x202.out))
  (some (Orangeboxref0Ink.mk g144))
def F_ref0_Ink_Texts (p0 : Orangeboxref0Ink) (p1 : List Str) : Option Orangeboxref0Ink :=
  letO (p1.length : Int) fun x10 =>
  bindO (F_ref0_Ink_Int p0 x10) fun x15 =>
  F_ref0_Ink_Texts_L1 p1 (0, x15.out)


def F_ref0_Ink_Cond_B_L1 (rfF : Orangeboxref0Ink → Cond → Option Orangeboxref0Ink) (p1 : Cond) : Int × (List Int) → Option Orangeboxref0Ink := loopO fun k182 ⟨g175, g177⟩ =>
  letO (p1.Kids.length : Int) fun x196 =>
  letO (decide (g175 < x196)) fun x201 =>
  iteB x201
  (bindO (at' p1.Kids g175) fun x226 =>
  bindO (rfF (Orangeboxref0Ink.mk g177) x226) fun x241 =>
  letO (IntKind.i64.wrap (g175 + 1)) fun x247 =>
  k182 (x247, x241.out))
  (some (Orangeboxref0Ink.mk g177))
def F_ref0_Ink_Cond_B (rfF : Orangeboxref0Ink → Cond → Option Orangeboxref0Ink) (p0 : Orangeboxref0Ink) (p1 : Cond) : Option Orangeboxref0Ink :=
  letO (p1.Kids.length : Int) fun x14 =>
  letO ([p1.Kind, p1.Op, p1.N, p1.Frames, x14] : List Int) fun _ =>
  bindO (F_ref0_Ink_Ints p0 ([p1.Kind, p1.Op, p1.N, p1.Frames, x14] : List Int)) fun x24 =>
  letO ([p1.Name, p1.Other] : List Str) fun _ =>
  bindO (F_ref0_Ink_Texts x24 ([p1.Name, p1.Other] : List Str)) fun x36 =>
  F_ref0_Ink_Cond_B_L1 rfF p1 (0, x36.out)

def F_ref0_Ink_Cond_R : Nat → Orangeboxref0Ink → Cond → Option Orangeboxref0Ink
  | 0 => fun _ _ => none
  | n + 1 => F_ref0_Ink_Cond_B (F_ref0_Ink_Cond_R n)
def F_ref0_Ink_Cond : Orangeboxref0Ink → Cond → Option Orangeboxref0Ink := F_ref0_Ink_Cond_R FU

def F_ref0_Ink_Errno (p0 : Orangeboxref0Ink) (p1 : Int) : Option Orangeboxref0Ink :=
  bindO (F_ref0_Ink_Int p0 p1) fun x7 =>
  some x7

def F_ref0_Ink_Told (p0 : Option Orangeboxref0Ink) : Option Str :=
  bindO p0 fun x5 =>
  letO (str' x5.out) fun x19 =>
  some x19

def F_law6_cond (p0 : Cond) (p1 : Int) : Option Str :=
  bindO (F_ref0_Ink_Cond (Orangeboxref0Ink.mk []) p0) fun x14 =>
  bindO (F_ref0_Ink_Errno x14 p1) fun x21 =>
  bindO (F_ref0_Ink_Told (some x21)) fun x30 =>
  some x30


def F_ref6_nodes_B_L1 (rfG : Cond → Int → Option Int) (p0 : Cond) (p1 : Int) : Int × Int → Option Int := loopO fun k348 ⟨g343, g344⟩ =>
  bindO (letO (p0.Kids.length : Int) fun x379 =>
  letO (decide (g344 < x379)) fun x384 =>
  iteB x384
  (letO (decide (g343 ≤ p1)) fun x387 =>
  some x387)
  (some false)) fun g376 =>
  iteB g376
  (bindO (at' p0.Kids g344) fun x415 =>
  letO (IntKind.i64.wrap (p1 - g343)) fun x430 =>
  bindO (rfG x415 x430) fun x433 =>
  letO (IntKind.i64.wrap (g343 + x433)) fun x437 =>
  letO (IntKind.i64.wrap (g344 + 1)) fun x439 =>
  k348 (x437, x439))
  (some g343)
def F_ref6_nodes_B (rfG : Cond → Int → Option Int) (p0 : Cond) (p1 : Int) : Option Int :=
  bindO (F_ref6_nodes_B_L1 rfG p0 p1 (1, 0)) fun g177 =>
  some g177

def F_ref6_nodes_R : Nat → Cond → Int → Option Int
  | 0 => fun _ _ => none
  | n + 1 => F_ref6_nodes_B (F_ref6_nodes_R n)
def F_ref6_nodes : Cond → Int → Option Int := F_ref6_nodes_R FU


def F_ref6_deeper_B_L1 (rfH : Cond → Int → Option Bool) (p0 : Cond) (p1 : Int) (k171 : Unit → Option Bool) : Int → Option Bool := loopO fun k323 g319 =>
  letO (p0.Kids.length : Int) fun x337 =>
  letO (decide (g319 < x337)) fun x342 =>
  iteB x342
  (bindO (at' p0.Kids g319) fun x372 =>
  letO (IntKind.i64.wrap (p1 - 1)) fun x387 =>
  bindO (rfH x372 x387) fun x390 =>
  iteB x390
  (some true)
  (letO (IntKind.i64.wrap (g319 + 1)) fun x396 =>
  k323 x396))
  (k171 ())
def F_ref6_deeper_B (rfH : Cond → Int → Option Bool) (p0 : Cond) (p1 : Int) : Option Bool :=
  letO (decide (p1 = 0)) fun x14 =>
  iteB x14
  (some true)
  (joinO (fun _ =>
  some false) fun k171 =>
  F_ref6_deeper_B_L1 rfH p0 p1 k171 0)

def F_ref6_deeper_R : Nat → Cond → Int → Option Bool
  | 0 => fun _ _ => none
  | n + 1 => F_ref6_deeper_B (F_ref6_deeper_R n)
def F_ref6_deeper : Cond → Int → Option Bool := F_ref6_deeper_R FU

def F_ref6_outside (p0 : Int) (p1 : Int) (p2 : Int) : Option Bool :=
  bindO (letO (decide (p0 < p1)) fun x10 =>
  iteB x10
  (some true)
  (letO (decide (p2 < p0)) fun x13 =>
  some x13)) fun g7 =>
  some g7

def F_ref6_fields (p0 : Int) : Option (Bool × Bool × Bool × Bool × Bool × Int) :=
  letO (decide (p0 = 3)) fun x75 =>
  iteB x75
  (some (true, false, true, true, false, 0))
  (letO (decide (p0 = 4)) fun x80 =>
  iteB x80
  (some (true, true, true, false, false, 0))
  (letO (decide (p0 = 5)) fun x85 =>
  iteB x85
  (some (true, false, false, true, true, 0))
  (bindO (letO (decide (p0 = 6)) fun x99 =>
  iteB x99
  (some x99)
  (letO (decide (p0 = 7)) fun x102 =>
  some x102)) fun g95 =>
  iteB g95
  (some (true, false, false, false, false, 0))
  (bindO (letO (decide (p0 = 8)) fun x116 =>
  iteB x116
  (some x116)
  (letO (decide (p0 = 15)) fun x119 =>
  some x119)) fun g112 =>
  iteB g112
  (some (false, false, false, false, false, 1))
  (bindO (letO (decide (p0 = 9)) fun x133 =>
  iteB x133
  (some x133)
  (letO (decide (p0 = 10)) fun x136 =>
  some x136)) fun g129 =>
  iteB g129
  (some (false, false, false, false, false, (-1)))
  (bindO (letO (decide (p0 = 11)) fun x150 =>
  iteB x150
  (some x150)
  (letO (decide (p0 = 12)) fun x153 =>
  some x153)) fun g146 =>
  iteB g146
  (some (false, false, false, false, true, 1))
  (letO (decide (p0 = 13)) fun x158 =>
  iteB x158
  (some (false, false, false, true, true, 1))
  (letO (decide (p0 = 14)) fun x163 =>
  iteB x163
  (some (false, false, false, false, false, 2))
  (some (false, false, false, false, false, 0))))))))))

def F_ref6_words : Option (List Str) :=
  letO ([[112, 104, 97, 115, 101], [109, 111, 118, 101], [114, 117, 108, 101], [105, 102], [111, 114], [97, 110, 100], [116, 114, 117, 101], [102, 97, 108, 115, 101], [115, 116, 101, 97, 100, 121], [110, 111, 116], [102, 111, 114], [119, 105, 116, 104, 105, 110], [99, 111, 117, 110, 116], [111, 102], [114, 105, 115, 101, 115], [115, 105, 110, 99, 101]] : List Str) fun _ =>
  some ([[112, 104, 97, 115, 101], [109, 111, 118, 101], [114, 117, 108, 101], [105, 102], [111, 114], [97, 110, 100], [116, 114, 117, 101], [102, 97, 108, 115, 101], [115, 116, 101, 97, 100, 121], [110, 111, 116], [102, 111, 114], [119, 105, 116, 104, 105, 110], [99, 111, 117, 110, 116], [111, 102], [114, 105, 115, 101, 115], [115, 105, 110, 99, 101]] : List Str)

def F_ref6_Reserved_L1 (p0 : Str) (x3 : List Str) (k126 : Unit → Option Bool) : Int → Option Bool := loopO fun k242 g238 =>
  letO (x3.length : Int) fun x256 =>
  letO (decide (g238 < x256)) fun x261 =>
  iteB x261
  (bindO (at' x3 g238) fun x282 =>
  letO (decide ((x282 : Str) = p0)) fun x293 =>
  iteB x293
  (some true)
  (letO (IntKind.i64.wrap (g238 + 1)) fun x297 =>
  k242 x297))
  (k126 ())
def F_ref6_Reserved (p0 : Str) : Option Bool :=
  bindO (F_ref6_words) fun x3 =>
  joinO (fun _ =>
  some false) fun k126 =>
  F_ref6_Reserved_L1 p0 x3 k126 0

def F_ref6_IsName_L1 (p0 : Str) (k175 : Unit → Option Bool) : Int → Option Bool := loopO fun k347 g343 =>
  letO (p0.length : Int) fun x358 =>
  letO (decide (g343 < x358)) fun x360 =>
  iteB x360
  (bindO (byte' p0 g343) fun x398 =>
  bindO (letO (decide (97 ≤ x398)) fun x428 =>
  bindO (iteB x428
  (letO (decide (x398 ≤ 122)) fun x434 =>
  some x434)
  (some false)) fun j430 =>
  iteB j430
  (some false)
  (letO (decide (0 < g343)) fun x437 =>
  iteB x437
  (letO (decide (48 ≤ x398)) fun x440 =>
  bindO (iteB x440
  (letO (decide (x398 ≤ 57)) fun x446 =>
  some x446)
  (some false)) fun j442 =>
  iteB j442
  (some false)
  (letO (decide (x398 = 45)) fun x449 =>
  letO (!x449) fun x451 =>
  some x451))
  (some true))) fun g425 =>
  iteB g425
  (some false)
  (letO (IntKind.i64.wrap (g343 + 1)) fun x455 =>
  k347 x455))
  (k175 ())
def F_ref6_IsName (p0 : Str) : Option Bool :=
  joinO (fun _ =>
  bindO (letO (decide ((p0 : Str) ≠ [])) fun x478 =>
  bindO (iteB x478
  (letO (p0.length : Int) fun x484 =>
  letO (decide (x484 ≤ 30)) fun x486 =>
  some x486)
  (some false)) fun j480 =>
  iteB j480
  (bindO (F_ref6_Reserved p0) fun x490 =>
  letO (!x490) fun x494 =>
  some x494)
  (some false)) fun g475 =>
  some g475) fun k175 =>
  F_ref6_IsName_L1 p0 k175 0

def F_ref6_nodeFault (p0 : Cond) : Option Int :=
  bindO (F_ref6_outside p0.Kind 1 15) fun x18 =>
  iteB x18
  (some 7)
  (bindO (F_ref6_fields p0.Kind) fun ⟨x26, x27, x28, x29, x30, x31⟩ =>
  bindO (letO (!x26) fun x126 =>
  bindO (iteB x126
  (letO (decide ((p0.Name : Str) ≠ [])) fun x132 =>
  some x132)
  (some false)) fun j128 =>
  bindO (iteB j128
  (some true)
  (letO (!x27) fun x138 =>
  iteB x138
  (letO (decide ((p0.Other : Str) ≠ [])) fun x141 =>
  some x141)
  (some false))) fun j134 =>
  bindO (iteB j134
  (some true)
  (letO (!x28) fun x147 =>
  iteB x147
  (letO (decide (p0.Op ≠ 0)) fun x150 =>
  some x150)
  (some false))) fun j143 =>
  bindO (iteB j143
  (some true)
  (letO (!x29) fun x156 =>
  iteB x156
  (letO (decide (p0.N ≠ 0)) fun x159 =>
  some x159)
  (some false))) fun j152 =>
  iteB j152
  (some true)
  (letO (!x30) fun x162 =>
  iteB x162
  (letO (decide (p0.Frames ≠ 0)) fun x165 =>
  some x165)
  (some false))) fun g123 =>
  iteB g123
  (some 2)
  (bindO (letO (decide (0 ≤ x31)) fun x226 =>
  bindO (iteB x226
  (letO (p0.Kids.length : Int) fun x232 =>
  letO (decide (x232 ≠ x31)) fun x237 =>
  some x237)
  (some false)) fun j228 =>
  iteB j228
  (some true)
  (letO (decide (x31 < 0)) fun x240 =>
  iteB x240
  (letO (p0.Kids.length : Int) fun x243 =>
  letO (decide (x243 < 2)) fun x248 =>
  some x248)
  (some false))) fun g223 =>
  iteB g223
  (some 2)
  (bindO (bindO (iteB x26
  (bindO (F_ref6_IsName p0.Name) fun x306 =>
  letO (!x306) fun x310 =>
  some x310)
  (some false)) fun j301 =>
  iteB j301
  (some true)
  (iteB x27
  (bindO (F_ref6_IsName p0.Other) fun x315 =>
  letO (!x315) fun x319 =>
  some x319)
  (some false))) fun g298 =>
  iteB g298
  (some 8)
  (bindO (iteB x28
  (bindO (F_ref6_outside p0.Op 1 6) fun x346 =>
  some x346)
  (some false)) fun g341 =>
  iteB g341
  (some 7)
  (bindO (iteB x30
  (bindO (F_ref6_outside p0.Frames 1 4096) fun x375 =>
  some x375)
  (some false)) fun g370 =>
  iteB g370
  (some 9)
  (joinO (fun _ =>
  bindO (letO (decide (p0.Kind = 5)) fun x471 =>
  iteB x471
  (letO (decide (p0.N < 0)) fun x474 =>
  some x474)
  (some false)) fun g468 =>
  iteB g468
  (some 9)
  (some 0)) fun k413 =>
  bindO (letO (decide (p0.Kind = 3)) fun x426 =>
  iteB x426
  (some x426)
  (letO (decide (p0.Kind = 5)) fun x429 =>
  some x429)) fun g422 =>
  iteB g422
  (bindO (F_ref6_outside p0.N (-1125899906842624) 1125899906842624) fun x434 =>
  iteB x434
  (some 9)
  (k413 ()))
  (letO (decide (p0.Kind = 13)) fun x441 =>
  iteB x441
  (bindO (F_ref6_outside p0.N 1 p0.Frames) fun x446 =>
  iteB x446
  (some 9)
  (k413 ()))
  (k413 ()))))))))


def F_ref6_nodesFault_B_L1 (rfI : Cond → Option Int) (p0 : Cond) : Int × Int → Option Int := loopO fun k321 ⟨g316, g317⟩ =>
  bindO (letO (p0.Kids.length : Int) fun x352 =>
  letO (decide (g317 < x352)) fun x357 =>
  iteB x357
  (letO (decide (g316 = 0)) fun x360 =>
  some x360)
  (some false)) fun g349 =>
  iteB g349
  (bindO (at' p0.Kids g317) fun x384 =>
  bindO (rfI x384) fun x400 =>
  letO (IntKind.i64.wrap (g317 + 1)) fun x404 =>
  k321 (x400, x404))
  (some g316)
def F_ref6_nodesFault_B (rfI : Cond → Option Int) (p0 : Cond) : Option Int :=
  bindO (F_ref6_nodeFault p0) fun x9 =>
  bindO (F_ref6_nodesFault_B_L1 rfI p0 (x9, 0)) fun g166 =>
  some g166

def F_ref6_nodesFault_R : Nat → Cond → Option Int
  | 0 => fun _ => none
  | n + 1 => F_ref6_nodesFault_B (F_ref6_nodesFault_R n)
def F_ref6_nodesFault : Cond → Option Int := F_ref6_nodesFault_R FU

def F_ref6_CheckCond (p0 : Cond) : Option Int :=
  bindO (bindO (F_ref6_nodes p0 200) fun x43 =>
  letO (decide (200 < x43)) fun x47 =>
  iteB x47
  (some true)
  (bindO (F_ref6_deeper p0 20) fun x51 =>
  some x51)) fun g39 =>
  iteB g39
  (some 3)
  (bindO (F_ref6_nodesFault p0) fun x59 =>
  some x59)


def F_ref6_contrary (p0 : Int) : Option Int :=
  letO (decide (p0 = 1)) fun x31 =>
  iteB x31
  (some 5)
  (letO (decide (p0 = 2)) fun x36 =>
  iteB x36
  (some 6)
  (letO (decide (p0 = 3)) fun x41 =>
  iteB x41
  (some 4)
  (letO (decide (p0 = 4)) fun x46 =>
  iteB x46
  (some 3)
  (letO (decide (p0 = 5)) fun x51 =>
  iteB x51
  (some 1)
  (some 2)))))

def F_ref6_inward_B_L1 (rfJ : Cond → Bool → Option Cond) (p0 : Cond) (g99 : Bool) : Int × (List Cond) → Option (List Cond) := loopO fun k539 ⟨g531, g533⟩ =>
  letO (p0.Kids.length : Int) fun x553 =>
  letO (decide (g531 < x553)) fun x558 =>
  iteB x558
  (bindO (at' p0.Kids g531) fun x598 =>
  bindO (rfJ x598 g99) fun x613 =>
  letO ([x613] : List Cond) fun _ =>
  bindO (app' 88 g533 ([x613] : List Cond)) fun x624 =>
  letO (IntKind.i64.wrap (g531 + 1)) fun x630 =>
  k539 (x630, x624))
  (some g533)
def F_ref6_inward_B (rfJ : Cond → Bool → Option Cond) (p0 : Cond) (p1 : Bool) : Option Cond :=
  letO (decide (p0.Kind = 8)) fun x42 =>
  iteB x42
  (bindO (at' p0.Kids 0) fun x46 =>
  letO (!p1) fun x61 =>
  bindO (rfJ x46 x61) fun x63 =>
  some x63)
  (bindO (bindO (letO (decide (p0.Kind = 6)) fun x125 =>
  iteB x125
  (some x125)
  (letO (decide (p0.Kind = 7)) fun x129 =>
  iteB x129
  (some x129)
  (letO (decide (p0.Kind = 5)) fun x133 =>
  iteB x133
  (some x133)
  (letO (decide (p0.Kind = 14)) fun x137 =>
  iteB x137
  (some x137)
  (letO (decide (p0.Kind = 15)) fun x140 =>
  some x140))))) fun g121 =>
  iteB g121
  (some false)
  (some p1)) fun g99 =>
  bindO (F_ref6_inward_B_L1 rfJ p0 g99 (0, [])) fun g340 =>
  letO (!p1) fun x640 =>
  iteB x640
  (some (Cond.mk p0.Kind p0.Name p0.Other p0.Op p0.N p0.Frames g340))
  (joinO (fun ⟨g720, g721, g722⟩ =>
  some (Cond.mk g720 p0.Name p0.Other g721 g722 p0.Frames g340)) fun k724 =>
  bindO (letO (decide (p0.Kind = 1)) fun x737 =>
  iteB x737
  (some x737)
  (letO (decide (p0.Kind = 2)) fun x740 =>
  some x740)) fun g733 =>
  iteB g733
  (letO (IntKind.i64.wrap (3 - p0.Kind)) fun x743 =>
  k724 (x743, p0.Op, p0.N))
  (bindO (letO (decide (p0.Kind = 3)) fun x756 =>
  iteB x756
  (some x756)
  (letO (decide (p0.Kind = 4)) fun x759 =>
  some x759)) fun g752 =>
  iteB g752
  (bindO (F_ref6_contrary p0.Op) fun x763 =>
  k724 (p0.Kind, x763, p0.N))
  (bindO (letO (decide (p0.Kind = 9)) fun x778 =>
  iteB x778
  (some x778)
  (letO (decide (p0.Kind = 10)) fun x781 =>
  some x781)) fun g774 =>
  iteB g774
  (letO (IntKind.i64.wrap (19 - p0.Kind)) fun x784 =>
  k724 (x784, p0.Op, p0.N))
  (bindO (letO (decide (p0.Kind = 11)) fun x797 =>
  iteB x797
  (some x797)
  (letO (decide (p0.Kind = 12)) fun x800 =>
  some x800)) fun g793 =>
  iteB g793
  (letO (IntKind.i64.wrap (23 - p0.Kind)) fun x803 =>
  k724 (x803, p0.Op, p0.N))
  (letO (decide (p0.Kind = 13)) fun x807 =>
  iteB x807
  (letO (IntKind.i64.wrap (p0.Frames + 1)) fun x810 =>
  letO (IntKind.i64.wrap (x810 - p0.N)) fun x812 =>
  k724 (p0.Kind, p0.Op, x812))
  (letO ([Cond.mk p0.Kind p0.Name p0.Other p0.Op p0.N p0.Frames g340] : List Cond) fun _ =>
  some (Cond.mk 8 [] [] 0 0 0 ([Cond.mk p0.Kind p0.Name p0.Other p0.Op p0.N p0.Frames g340] : List Cond)))))))))

def F_ref6_inward_R : Nat → Cond → Bool → Option Cond
  | 0 => fun _ _ => none
  | n + 1 => F_ref6_inward_B (F_ref6_inward_R n)
def F_ref6_inward : Cond → Bool → Option Cond := F_ref6_inward_R FU

def F_ref6_Inward (p0 : Cond) : Option (Cond × Int) :=
  bindO (F_ref6_CheckCond p0) fun x26 =>
  letO (decide (x26 ≠ 0)) fun x31 =>
  iteB x31
  (some (Cond.mk 0 [] [] 0 0 0 [], x26))
  (bindO (F_ref6_inward p0 false) fun x38 =>
  bindO (F_ref6_CheckCond x38) fun x62 =>
  letO (decide (x62 ≠ 0)) fun x66 =>
  iteB x66
  (some (Cond.mk 0 [] [] 0 0 0 [], 3))
  (some (x38, 0)))

def F_event_checkMove_1 (p0 : Cond) : Option Int :=
  bindO (letO (decide (p0.Kind = 6)) fun x26 =>
  iteB x26
  (some true)
  (letO (decide (p0.Kind = 7)) fun x29 =>
  some x29)) fun g23 =>
  iteB g23
  (some 2)
  (some 0)


def F_event_each_event_checkMove_1_B_L1 (rfK : Cond → Option Int) (p0 : Cond) (k186 : Unit → Option Int) (x189 : Int) : Int → Option Int := loopO fun k341 g337 =>
  letO (decide (g337 < x189)) fun x345 =>
  iteB x345
  (bindO (at' p0.Kids g337) fun x383 =>
  bindO (rfK x383) fun x404 =>
  letO (decide (x404 ≠ 0)) fun x409 =>
  iteB x409
  (some x404)
  (letO (IntKind.i64.wrap (g337 + 1)) fun x413 =>
  k341 x413))
  (k186 ())
def F_event_each_event_checkMove_1_B (rfK : Cond → Option Int) (p0 : Cond) : Option Int :=
  bindO (F_event_checkMove_1 p0) fun x21 =>
  letO (decide (x21 ≠ 0)) fun x26 =>
  iteB x26
  (some x21)
  (joinO (fun _ =>
  some 0) fun k186 =>
  letO (p0.Kids.length : Int) fun x189 =>
  F_event_each_event_checkMove_1_B_L1 rfK p0 k186 x189 0)

def F_event_each_event_checkMove_1_R : Nat → Cond → Option Int
  | 0 => fun _ => none
  | n + 1 => F_event_each_event_checkMove_1_B (F_event_each_event_checkMove_1_R n)
def F_event_each_event_checkMove_1 : Cond → Option Int := F_event_each_event_checkMove_1_R FU

def F_event_checkMove_L1 (p0 : Rules) (p1 : MoveT) (k141 : Unit → Option Int) (x149 : Int) : Int → Option Int := loopO fun k265 g261 =>
  letO (decide (g261 < x149)) fun x269 =>
  iteB x269
  (bindO (at' ([p1.From, p1.To] : List Str) g261) fun x298 =>
  bindO (F_slices_Contains___string_string_ p0.Phases x298) fun x311 =>
  letO (!x311) fun x315 =>
  iteB x315
  (some 4)
  (letO (IntKind.i64.wrap (g261 + 1)) fun x319 =>
  k265 x319))
  (k141 ())
def F_event_checkMove (p0 : Rules) (p1 : MoveT) : Option Int :=
  joinO (fun _ =>
  bindO (F_event_CheckCond p1.When) fun x335 =>
  letO (decide (x335 ≠ 0)) fun x340 =>
  iteB x340
  (some x335)
  (bindO (F_event_each_event_checkMove_1 p1.When) fun x346 =>
  some x346)) fun k141 =>
  letO ([p1.From, p1.To] : List Str) fun _ =>
  letO ((([p1.From, p1.To] : List Str)).length : Int) fun x149 =>
  F_event_checkMove_L1 p0 p1 k141 x149 0

def F_event_checkRule_1_1 (p0 : Rule) (c0 : Str) : Option Bool :=
  letO (decide ((p0.Name : Str) = c0)) fun x10 =>
  some x10

def F_slices_IndexFunc___api_Rule_api_Rule__event_checkRule_1_1_L1 (p0 : List Rule) (p1c0 : Str) (k130 : Unit → Option Int) (x133 : Int) : Int → Option Int := loopO fun k253 g249 =>
  letO (decide (g249 < x133)) fun x257 =>
  iteB x257
  (bindO (at' p0 g249) fun x288 =>
  bindO (F_event_checkRule_1_1 x288 p1c0) fun x303 =>
  iteB x303
  (some g249)
  (letO (IntKind.i64.wrap (g249 + 1)) fun x309 =>
  k253 x309))
  (k130 ())
def F_slices_IndexFunc___api_Rule_api_Rule__event_checkRule_1_1 (p0 : List Rule) (p1c0 : Str) : Option Int :=
  joinO (fun _ =>
  some (-1)) fun k130 =>
  letO (p0.length : Int) fun x133 =>
  F_slices_IndexFunc___api_Rule_api_Rule__event_checkRule_1_1_L1 p0 p1c0 k130 x133 0

def F_slices_ContainsFunc___api_Rule_api_Rule__event_checkRule_1_1 (p0 : List Rule) (p1c0 : Str) : Option Bool :=
  bindO (F_slices_IndexFunc___api_Rule_api_Rule__event_checkRule_1_1 p0 p1c0) fun x7 =>
  letO (decide (0 ≤ x7)) fun x11 =>
  some x11

def F_event_checkRule_1 (p0 : Str) (c0 : Rules) (c1 : Int) : Option Bool :=
  bindO (sub' c0.Rules 0 c1) fun x16 =>
  bindO (F_slices_ContainsFunc___api_Rule_api_Rule__event_checkRule_1_1 x16 p0) fun x21 =>
  some x21

def F_event_checkRule_2_df146_a0de (p0 : Cond) (c0 : Rules) (c1f1 : Int) : Option Int :=
  bindO (letO (decide (p0.Kind = 6)) fun x74 =>
  bindO (iteB x74
  (bindO (F_slices_Contains___string_string_ c0.Phases p0.Name) fun x81 =>
  letO (!x81) fun x85 =>
  some x85)
  (some false)) fun j76 =>
  iteB j76
  (some true)
  (letO (decide (p0.Kind = 7)) fun x88 =>
  iteB x88
  (bindO (F_event_checkRule_1 p0.Name c0 c1f1) fun x91 =>
  letO (!x91) fun x95 =>
  some x95)
  (some false))) fun g71 =>
  iteB g71
  (some 4)
  (some 0)


def F_event_each_event_checkRule_2_df146_a0de_B_L1 (rfL : Cond → Rules → Int → Option Int) (p0 : Cond) (p1c0 : Rules) (p1c1f1 : Int) (k192 : Unit → Option Int) (x195 : Int) : Int → Option Int := loopO fun k343 g339 =>
  letO (decide (g339 < x195)) fun x347 =>
  iteB x347
  (bindO (at' p0.Kids g339) fun x384 =>
  bindO (rfL x384 p1c0 p1c1f1) fun x404 =>
  letO (decide (x404 ≠ 0)) fun x409 =>
  iteB x409
  (some x404)
  (letO (IntKind.i64.wrap (g339 + 1)) fun x413 =>
  k343 x413))
  (k192 ())
def F_event_each_event_checkRule_2_df146_a0de_B (rfL : Cond → Rules → Int → Option Int) (p0 : Cond) (p1c0 : Rules) (p1c1f1 : Int) : Option Int :=
  bindO (F_event_checkRule_2_df146_a0de p0 p1c0 p1c1f1) fun x31 =>
  letO (decide (x31 ≠ 0)) fun x36 =>
  iteB x36
  (some x31)
  (joinO (fun _ =>
  some 0) fun k192 =>
  letO (p0.Kids.length : Int) fun x195 =>
  F_event_each_event_checkRule_2_df146_a0de_B_L1 rfL p0 p1c0 p1c1f1 k192 x195 0)

def F_event_each_event_checkRule_2_df146_a0de_R : Nat → Cond → Rules → Int → Option Int
  | 0 => fun _ _ _ => none
  | n + 1 => F_event_each_event_checkRule_2_df146_a0de_B (F_event_each_event_checkRule_2_df146_a0de_R n)
def F_event_each_event_checkRule_2_df146_a0de : Cond → Rules → Int → Option Int := F_event_each_event_checkRule_2_df146_a0de_R FU

def F_event_checkRule (p0 : Rules) (p1 : Int) : Option Int :=
  bindO (at' p0.Rules p1) fun x15 =>
  bindO (F_event_isName x15.Name) fun x59 =>
  letO (!x59) fun x63 =>
  iteB x63
  (some 8)
  (bindO (F_event_checkRule_1 x15.Name p0 p1) fun x68 =>
  iteB x68
  (some 5)
  (bindO (F_event_CheckCond x15.When) fun x88 =>
  letO (decide (x88 ≠ 0)) fun x93 =>
  iteB x93
  (some x88)
  (bindO (F_event_each_event_checkRule_2_df146_a0de x15.When p0 p1) fun x98 =>
  some x98)))

def F_event_Check_L1 (p0 : Rules) (k320 : Unit → Option Int) (x323 : Int) : Int → Option Int := loopO fun k539 g535 =>
  letO (decide (g535 < x323)) fun x543 =>
  iteB x543
  (bindO (at' p0.Phases g535) fun x597 =>
  bindO (F_event_isName x597) fun x622 =>
  letO (!x622) fun x626 =>
  iteB x626
  (some 8)
  (bindO (sub' p0.Phases 0 g535) fun x631 =>
  bindO (F_slices_Contains___string_string_ x631 x597) fun x637 =>
  iteB x637
  (some 5)
  (letO (IntKind.i64.wrap (g535 + 1)) fun x643 =>
  k539 x643)))
  (k320 ())
def F_event_Check_L2 (p0 : Rules) (k801 : Unit → Option Int) (x804 : Int) : Int → Option Int := loopO fun k956 g952 =>
  letO (decide (g952 < x804)) fun x960 =>
  iteB x960
  (bindO (at' p0.Moves g952) fun x998 =>
  bindO (F_event_checkMove p0 x998) fun x1019 =>
  letO (decide (x1019 ≠ 0)) fun x1024 =>
  iteB x1024
  (some x1019)
  (letO (IntKind.i64.wrap (g952 + 1)) fun x1028 =>
  k956 x1028))
  (k801 ())
def F_event_Check_L3 (p0 : Rules) (k1110 : Unit → Option Int) (x1113 : Int) : Int → Option Int := loopO fun k1189 g1185 =>
  letO (decide (g1185 < x1113)) fun x1193 =>
  iteB x1193
  (bindO (F_event_checkRule p0 g1185) fun x1214 =>
  letO (decide (x1214 ≠ 0)) fun x1219 =>
  iteB x1219
  (some x1214)
  (letO (IntKind.i64.wrap (g1185 + 1)) fun x1223 =>
  k1189 x1223))
  (k1110 ())
def F_event_Check (p0 : Rules) : Option Int :=
  bindO (letO (p0.Phases.length : Int) fun x72 =>
  letO (decide (20 < x72)) fun x77 =>
  bindO (iteB x77
  (some true)
  (letO (p0.Moves.length : Int) fun x83 =>
  letO (decide (60 < x83)) fun x88 =>
  some x88)) fun j79 =>
  iteB j79
  (some true)
  (letO (p0.Rules.length : Int) fun x91 =>
  letO (decide (60 < x91)) fun x96 =>
  some x96)) fun g69 =>
  iteB g69
  (some 3)
  (joinO (fun _ =>
  joinO (fun _ =>
  joinO (fun _ =>
  some 0) fun k1110 =>
  letO (p0.Rules.length : Int) fun x1113 =>
  F_event_Check_L3 p0 k1110 x1113 0) fun k801 =>
  letO (p0.Moves.length : Int) fun x804 =>
  F_event_Check_L2 p0 k801 x804 0) fun k320 =>
  letO (p0.Phases.length : Int) fun x323 =>
  F_event_Check_L1 p0 k320 x323 0)

def F_event_Read (p0 : Str) : Option (Rules × Int × Int) :=
  letO (p0.length : Int) fun x20 =>
  letO (decide (200000 < x20)) fun x22 =>
  iteB x22
  (some (Rules.mk [] [] [], 0, 3))
  (bindO (F_caught (EventReader.mk p0 0 (EventToken.mk 0 0 0 []) (Rules.mk [] [] []))) fun ⟨x68, x69⟩ =>
  letO (decide (x68.e ≠ 0)) fun x84 =>
  iteB x84
  (some (Rules.mk [] [] [], x68.at_, x68.e))
  (bindO (F_event_Check x69.r) fun x111 =>
  letO (decide (x111 ≠ 0)) fun x116 =>
  iteB x116
  (some (Rules.mk [] [] [], 0, x111))
  (some (x69.r, 0, 0))))

def F_strings_Builder_WriteString (p0 : List Int) (p1 : Str) : Option (Int × Unit × (List Int)) :=
  bindO (X_bcheck p0) fun x11 =>
  bindO (app' 1 x11 (nums p1)) fun x20 =>
  letO (p1.length : Int) fun x26 =>
  some (x26, (), x20)


def F_event_joined_L1 (rfM : Cond → Int → Option Str) (p0 : List Cond) (p2 : Int) (x185 : Int) : (List Str) × Int → Option (List Str) := loopO fun k358 ⟨g351, g353⟩ =>
  letO (decide (g353 < x185)) fun x362 =>
  iteB x362
  (bindO (at' p0 g353) fun x403 =>
  bindO (rfM x403 p2) fun x423 =>
  letO ([x423] : List Str) fun _ =>
  bindO (app' 16 g351 ([x423] : List Str)) fun x432 =>
  letO (IntKind.i64.wrap (g353 + 1)) fun x436 =>
  k358 (x432, x436))
  (some g351)
def F_event_joined (rfM : Cond → Int → Option Str) (p0 : List Cond) (p1 : Str) (p2 : Int) : Option Str :=
  bindO (letO (p0.length : Int) fun x185 =>
  F_event_joined_L1 rfM p0 p2 x185 ([], 0)) fun g180 =>
  bindO (cat' [32] p1) fun x439 =>
  bindO (cat' x439 [32]) fun x441 =>
  bindO (X_Join g180 x441) fun x444 =>
  some x444

def F_event_condText_1 (rfM : Cond → Int → Option Str) (c0 : Cond) : Option Str :=
  bindO (F_event_joined rfM c0.Kids [] 3) fun x9 =>
  some x9

def F_event_condText_1_z (rfM : Cond → Int → Option Str) (c0 : Cond) : Option Str :=
  bindO (F_event_joined rfM c0.Kids [] 3) fun x9 =>
  some x9

def F_event_condText_B (rfM : Cond → Int → Option Str) (p0 : Cond) (p1 : Int) : Option Str :=
  letO (decide (p0.Kind = 9)) fun x255 =>
  iteB x255
  (bindO (bindO (F_event_joined rfM p0.Kids [97, 110, 100] 2) fun x282 =>
  bindO (letO (decide (p1 = 2)) fun x294 =>
  iteB x294
  (some true)
  (letO (decide (p1 = 3)) fun x297 =>
  some x297)) fun g291 =>
  iteB g291
  (bindO (cat' [40] x282) fun x300 =>
  bindO (cat' x300 [41]) fun x302 =>
  some x302)
  (some x282)) fun g277 =>
  some g277)
  (letO (decide (p0.Kind = 10)) fun x306 =>
  iteB x306
  (bindO (bindO (F_event_joined rfM p0.Kids [111, 114] 1) fun x328 =>
  letO (decide (p1 ≠ 0)) fun x333 =>
  iteB x333
  (bindO (cat' [40] x328) fun x336 =>
  bindO (cat' x336 [41]) fun x338 =>
  some x338)
  (some x328)) fun g323 =>
  some g323)
  (letO (decide (p0.Kind = 1)) fun x342 =>
  iteB x342
  (some [116, 114, 117, 101])
  (letO (decide (p0.Kind = 2)) fun x347 =>
  iteB x347
  (some [102, 97, 108, 115, 101])
  (letO (decide (p0.Kind = 3)) fun x352 =>
  iteB x352
  (bindO (cat' p0.Name [32]) fun x360 =>
  bindO (at' zJ.l p0.Op) fun x362 =>
  bindO (cat' x360 x362) fun x364 =>
  bindO (cat' x364 [32]) fun x366 =>
  bindO (X_Itoa p0.N) fun x369 =>
  bindO (cat' x366 x369) fun x373 =>
  some x373)
  (letO (decide (p0.Kind = 4)) fun x377 =>
  iteB x377
  (bindO (cat' p0.Name [32]) fun x383 =>
  bindO (at' zJ.l p0.Op) fun x385 =>
  bindO (cat' x383 x385) fun x387 =>
  bindO (cat' x387 [32]) fun x389 =>
  bindO (cat' x389 p0.Other) fun x391 =>
  some x391)
  (letO (decide (p0.Kind = 5)) fun x395 =>
  iteB x395
  (bindO (cat' [115, 116, 101, 97, 100, 121, 32] p0.Name) fun x402 =>
  bindO (cat' x402 [32]) fun x404 =>
  bindO (X_Itoa p0.N) fun x407 =>
  bindO (cat' x404 x407) fun x411 =>
  bindO (cat' x411 [32]) fun x413 =>
  bindO (X_Itoa p0.Frames) fun x416 =>
  bindO (cat' x413 x416) fun x420 =>
  some x420)
  (letO (decide (p0.Kind = 6)) fun x424 =>
  iteB x424
  (bindO (cat' [112, 104, 97, 115, 101, 32] p0.Name) fun x428 =>
  some x428)
  (letO (decide (p0.Kind = 7)) fun x431 =>
  iteB x431
  (bindO (cat' [114, 117, 108, 101, 32] p0.Name) fun x435 =>
  some x435)
  (letO (decide (p0.Kind = 8)) fun x438 =>
  iteB x438
  (bindO (F_event_condText_1 rfM p0) fun x442 =>
  bindO (cat' [110, 111, 116, 32] x442) fun x446 =>
  some x446)
  (letO (decide (p0.Kind = 11)) fun x449 =>
  iteB x449
  (bindO (X_Itoa p0.Frames) fun x454 =>
  bindO (cat' [102, 111, 114, 32] x454) fun x458 =>
  bindO (cat' x458 [32]) fun x460 =>
  bindO (F_event_condText_1 rfM p0) fun x462 =>
  bindO (cat' x460 x462) fun x466 =>
  some x466)
  (letO (decide (p0.Kind = 12)) fun x469 =>
  iteB x469
  (bindO (X_Itoa p0.Frames) fun x474 =>
  bindO (cat' [119, 105, 116, 104, 105, 110, 32] x474) fun x478 =>
  bindO (cat' x478 [32]) fun x480 =>
  bindO (F_event_condText_1 rfM p0) fun x482 =>
  bindO (cat' x480 x482) fun x486 =>
  some x486)
  (letO (decide (p0.Kind = 13)) fun x489 =>
  iteB x489
  (bindO (X_Itoa p0.N) fun x497 =>
  bindO (cat' [99, 111, 117, 110, 116, 32] x497) fun x501 =>
  bindO (cat' x501 [32, 111, 102, 32]) fun x503 =>
  bindO (X_Itoa p0.Frames) fun x506 =>
  bindO (cat' x503 x506) fun x510 =>
  bindO (cat' x510 [32]) fun x512 =>
  bindO (F_event_condText_1_z rfM p0) fun x514 =>
  bindO (cat' x512 x514) fun x518 =>
  some x518)
  (letO (decide (p0.Kind = 15)) fun x522 =>
  iteB x522
  (bindO (F_event_condText_1 rfM p0) fun x526 =>
  bindO (cat' [114, 105, 115, 101, 115, 32] x526) fun x530 =>
  some x530)
  (bindO (at' p0.Kids 0) fun x535 =>
  bindO (rfM x535 3) fun x551 =>
  bindO (cat' [115, 105, 110, 99, 101, 32] x551) fun x553 =>
  bindO (cat' x553 [32]) fun x555 =>
  bindO (at' p0.Kids 1) fun x557 =>
  bindO (rfM x557 3) fun x573 =>
  bindO (cat' x555 x573) fun x575 =>
  some x575))))))))))))))

def F_event_condText_R : Nat → Cond → Int → Option Str
  | 0 => fun _ _ => none
  | n + 1 => F_event_condText_B (F_event_condText_R n)
def F_event_condText : Cond → Int → Option Str := F_event_condText_R FU

def F_strings_Builder_Len (p0 : List Int) : Option (Int × (List Int)) :=
  letO (p0.length : Int) fun x11 =>
  some (x11, p0)

def F_event_Print_L1 (p0 : Rules) (x197 : Int) : Int × (List Int) → Option (List Int) := loopO fun k349 ⟨g338, g342⟩ =>
  letO (decide (g338 < x197)) fun x353 =>
  iteB x353
  (bindO (at' p0.Phases g338) fun x387 =>
  bindO (cat' [112, 104, 97, 115, 101, 32] x387) fun x399 =>
  bindO (cat' x399 [10]) fun x401 =>
  bindO (F_strings_Builder_WriteString g342 x401) fun ⟨x403, x404, x405⟩ =>
  letO (IntKind.i64.wrap (g338 + 1)) fun x413 =>
  k349 (x413, x405))
  (some g342)
def F_event_Print_L2 (p0 : Rules) (x655 : Int) : Int × (List Int) → Option (List Int) := loopO fun k889 ⟨g880, g884⟩ =>
  letO (decide (g880 < x655)) fun x893 =>
  iteB x893
  (bindO (at' p0.Moves g880) fun x949 =>
  bindO (cat' [109, 111, 118, 101, 32] x949.From) fun x971 =>
  bindO (cat' x971 [32]) fun x973 =>
  bindO (cat' x973 x949.To) fun x975 =>
  bindO (cat' x975 [32, 105, 102, 32]) fun x977 =>
  bindO (F_event_condText x949.When 0) fun x980 =>
  bindO (cat' x977 x980) fun x982 =>
  bindO (cat' x982 [10]) fun x984 =>
  bindO (F_strings_Builder_WriteString g884 x984) fun ⟨x986, x987, x988⟩ =>
  letO (IntKind.i64.wrap (g880 + 1)) fun x997 =>
  k889 (x997, x988))
  (some g884)
def F_event_Print_L3 (p0 : Rules) (x1219 : Int) : Int × (List Int) → Option (List Int) := loopO fun k1433 ⟨g1424, g1428⟩ =>
  letO (decide (g1424 < x1219)) fun x1437 =>
  iteB x1437
  (bindO (at' p0.Rules g1424) fun x1488 =>
  bindO (cat' [114, 117, 108, 101, 32] x1488.Name) fun x1509 =>
  bindO (cat' x1509 [32, 105, 102, 32]) fun x1511 =>
  bindO (F_event_condText x1488.When 0) fun x1514 =>
  bindO (cat' x1511 x1514) fun x1516 =>
  bindO (cat' x1516 [10]) fun x1518 =>
  bindO (F_strings_Builder_WriteString g1428 x1518) fun ⟨x1520, x1521, x1522⟩ =>
  letO (IntKind.i64.wrap (g1424 + 1)) fun x1531 =>
  k1433 (x1531, x1522))
  (some g1428)
def F_event_Print (p0 : Rules) : Option (Str × Int) :=
  bindO (F_event_Check p0) fun x26 =>
  letO (decide (x26 ≠ 0)) fun x31 =>
  iteB x31
  (some ([], x26))
  (bindO (letO (p0.Phases.length : Int) fun x197 =>
  F_event_Print_L1 p0 x197 (0, [])) fun g192 =>
  bindO (letO (p0.Moves.length : Int) fun x655 =>
  F_event_Print_L2 p0 x655 (0, g192)) fun g650 =>
  bindO (letO (p0.Rules.length : Int) fun x1219 =>
  F_event_Print_L3 p0 x1219 (0, g650)) fun g1214 =>
  bindO (F_strings_Builder_Len g1214) fun ⟨x1549, x1550⟩ =>
  letO (decide (200000 < x1549)) fun x1558 =>
  iteB x1558
  (some ([], 3))
  (bindO (X_bstring x1550) fun x1563 =>
  some (x1563, 0)))

def F_law6_reads : Option Bool :=
  bindO (F_event_Read [114, 117, 108, 101, 32, 97, 32, 105, 102, 32, 110, 111, 116, 32, 32, 40, 120, 32, 62, 49, 32, 111, 114, 32, 116, 114, 117, 101, 41]) fun ⟨x5, x6, x7⟩ =>
  bindO (F_event_Print x5) fun ⟨x23, x24⟩ =>
  bindO (letO (decide (x7 = 0)) fun x42 =>
  bindO (iteB x42
  (letO (decide (x24 = 0)) fun x48 =>
  some x48)
  (some false)) fun j44 =>
  iteB j44
  (letO (decide ((x23 : Str) = [114, 117, 108, 101, 32, 97, 32, 105, 102, 32, 110, 111, 116, 32, 40, 120, 32, 62, 32, 49, 32, 111, 114, 32, 116, 114, 117, 101, 41, 10])) fun x51 =>
  some x51)
  (some false)) fun g39 =>
  some g39

def F_law6_EventInwardMatchesSpec (p0 : Cond) : Option Bool :=
  bindO (bindO (F_event_Inward p0) fun ⟨x45, x46⟩ =>
  bindO (F_law6_cond x45 x46) fun x53 =>
  bindO (F_ref6_Inward p0) fun ⟨x55, x56⟩ =>
  bindO (F_law6_cond x55 x56) fun x63 =>
  letO (decide ((x53 : Str) = x63)) fun x65 =>
  iteB x65
  (bindO (F_law6_reads) fun x69 =>
  some x69)
  (some false)) fun g40 =>
  some g40
end Go.Lf
