/- Plain functions: what the code computes. -/
import Derived.Test.YtckmiljbaejijaaGreatDoorKTy
import Derived.Test.YtckmiljbaejijaaGreatDoorHP
import Derived.Test.YtckmiljbaejijaaGreatDoorLfS

namespace Go.Lf
open Go.RowKit Go.OB

def F_event_reader_blanks_L1 (p0 : EventReader) : Int → Option EventReader := loopO fun k117 g113 =>
  letO (p0.text.length : Int) fun x133 =>
  letO (decide (g113 < x133)) fun x135 =>
  iteB x135
  (bindO (byte' p0.text g113) fun x142 =>
  bindO (letO (decide (x142 = 32)) fun x163 =>
  iteB x163
  (some x163)
  (letO (decide (x142 = 9)) fun x167 =>
  iteB x167
  none
  (letO (decide (x142 = 10)) fun x171 =>
  iteB x171
  none
  (letO (decide (x142 = 13)) fun x174 =>
  some x174)))) fun g159 =>
  iteB g159
  (letO (IntKind.i64.wrap (g113 + 1)) fun x177 =>
  k117 x177)
  (letO (decide (x142 = 35)) fun x181 =>
  iteB x181
  none
  (some (EventReader.mk p0.text g113 p0.now p0.r))))
  (some (EventReader.mk p0.text g113 p0.now p0.r))
def F_event_reader_blanks (p0 : EventReader) : Option EventReader :=
  F_event_reader_blanks_L1 p0 p0.at_

def F_event_nameByte (p0 : Int) : Option Bool :=
  bindO (letO (decide (97 ≤ p0)) fun x25 =>
  bindO (iteB x25
  (letO (decide (p0 ≤ 122)) fun x31 =>
  some x31)
  (some false)) fun j27 =>
  bindO (iteB j27
  (some true)
  (letO (decide (48 ≤ p0)) fun x37 =>
  iteB x37
  (letO (decide (p0 ≤ 57)) fun x40 =>
  some x40)
  (some false))) fun j33 =>
  iteB j33
  (some true)
  (letO (decide (p0 = 45)) fun x43 =>
  some x43)) fun g22 =>
  some g22

def F_event_isWord (p0 : Str) : Option Bool :=
  bindO (letO (decide ((p0 : Str) = [112, 104, 97, 115, 101])) fun x138 =>
  iteB x138
  (some x138)
  (letO (decide ((p0 : Str) = [109, 111, 118, 101])) fun x142 =>
  iteB x142
  (some x142)
  (letO (decide ((p0 : Str) = [114, 117, 108, 101])) fun x146 =>
  iteB x146
  (some x146)
  (letO (decide ((p0 : Str) = [105, 102])) fun x150 =>
  iteB x150
  (some x150)
  (letO (decide ((p0 : Str) = [111, 114])) fun x154 =>
  iteB x154
  (some x154)
  (letO (decide ((p0 : Str) = [97, 110, 100])) fun x158 =>
  iteB x158
  (some x158)
  (letO (decide ((p0 : Str) = [116, 114, 117, 101])) fun x162 =>
  iteB x162
  (some x162)
  (letO (decide ((p0 : Str) = [102, 97, 108, 115, 101])) fun x166 =>
  iteB x166
  (some x166)
  (letO (decide ((p0 : Str) = [115, 116, 101, 97, 100, 121])) fun x170 =>
  iteB x170
  (some x170)
  (letO (decide ((p0 : Str) = [110, 111, 116])) fun x174 =>
  iteB x174
  (some x174)
  (letO (decide ((p0 : Str) = [102, 111, 114])) fun x178 =>
  iteB x178
  (some x178)
  (letO (decide ((p0 : Str) = [119, 105, 116, 104, 105, 110])) fun x182 =>
  iteB x182
  (some x182)
  (letO (decide ((p0 : Str) = [99, 111, 117, 110, 116])) fun x186 =>
  iteB x186
  (some x186)
  (letO (decide ((p0 : Str) = [111, 102])) fun x190 =>
  iteB x190
  (some x190)
  (letO (decide ((p0 : Str) = [114, 105, 115, 101, 115])) fun x194 =>
  iteB x194
  (some x194)
  (letO (decide ((p0 : Str) = [115, 105, 110, 99, 101])) fun x197 =>
  some x197)))))))))))))))) fun g134 =>
  iteB g134
  (some true)
  (some false)

def F_event_within (p0 : Int) (p1 : Int) (p2 : Int) : Option Bool :=
  bindO (letO (decide (p1 ≤ p0)) fun x10 =>
  iteB x10
  (letO (decide (p0 ≤ p2)) fun x13 =>
  some x13)
  (some false)) fun g7 =>
  some g7

def F_event_isName_L1 (p0 : Str) (k187 : Unit → Option Bool) (x190 : Int) : Int → Option Bool := loopO fun k267 g263 =>
  letO (decide (g263 < x190)) fun x271 =>
  iteB x271
  (bindO (byte' p0 g263) fun x292 =>
  bindO (F_event_nameByte x292) fun x295 =>
  letO (!x295) fun x299 =>
  iteB x299
  (some false)
  (letO (IntKind.i64.wrap (g263 + 1)) fun x303 =>
  k267 x303))
  (k187 ())
def F_event_isName (p0 : Str) : Option Bool :=
  bindO (letO (p0.length : Int) fun x73 =>
  bindO (F_event_within x73 1 30) fun x76 =>
  letO (!x76) fun x80 =>
  bindO (iteB x80
  (some true)
  (bindO (byte' p0 0) fun x86 =>
  letO (decide (x86 < 97)) fun x88 =>
  some x88)) fun j82 =>
  bindO (iteB j82
  (some true)
  (bindO (byte' p0 0) fun x94 =>
  letO (decide (122 < x94)) fun x96 =>
  some x96)) fun j90 =>
  iteB j90
  (some true)
  (bindO (F_event_isWord p0) fun x100 =>
  some x100)) fun g70 =>
  iteB g70
  (some false)
  (joinO (fun _ =>
  some true) fun k187 =>
  letO (p0.length : Int) fun x190 =>
  F_event_isName_L1 p0 k187 x190 0)

def F_internal_stringslite_HasPrefix (p0 : Str) (p1 : Str) : Option Bool :=
  bindO (letO (p0.length : Int) fun x18 =>
  letO (p1.length : Int) fun x20 =>
  letO (decide (x20 ≤ x18)) fun x22 =>
  iteB x22
  (letO (p1.length : Int) fun x25 =>
  bindO (sub' p0 0 x25) fun x27 =>
  letO (decide ((x27 : Str) = p1)) fun x29 =>
  some x29)
  (some false)) fun g15 =>
  some g15

def F_internal_stringslite_TrimPrefix (p0 : Str) (p1 : Str) : Option Str :=
  bindO (F_internal_stringslite_HasPrefix p0 p1) fun x12 =>
  iteB x12
  none
  (some p0)

def F_strings_TrimPrefix (p0 : Str) (p1 : Str) : Option Str :=
  bindO (F_internal_stringslite_TrimPrefix p0 p1) fun x4 =>
  some x4

def F_event_reader_run (p0 : EventReader) : Option EventReader :=
  bindO (X_Atoi p0.now.text) fun ⟨x15, x16⟩ =>
  bindO (F_event_isWord p0.now.text) fun x24 =>
  iteB x24
  (some (EventReader.mk p0.text p0.at_ (EventToken.mk 1 p0.now.at_ p0.now.n p0.now.text) p0.r))
  (bindO (F_event_isName p0.now.text) fun x32 =>
  iteB x32
  (some (EventReader.mk p0.text p0.at_ (EventToken.mk 2 p0.now.at_ p0.now.n p0.now.text) p0.r))
  (letO x16 fun x62 =>
  bindO (iteB x62
  (bindO (X_Itoa x15) fun x69 =>
  letO (decide ((x69 : Str) = p0.now.text)) fun x73 =>
  some x73)
  none) fun j64 =>
  iteB j64
  (bindO (F_strings_TrimPrefix p0.now.text [45]) fun x77 =>
  letO (x77.length : Int) fun x81 =>
  letO (decide (x81 ≤ 16)) fun x83 =>
  iteB x83
  (some (EventReader.mk p0.text p0.at_ (EventToken.mk 3 p0.now.at_ x15 p0.now.text) p0.r))
  none)
  none))

def F_strings_HasPrefix (p0 : Str) (p1 : Str) : Option Bool :=
  bindO (F_internal_stringslite_HasPrefix p0 p1) fun x4 =>
  some x4

def F_event_reader_advance_L1 (x14 : EventReader) : Int → Option Int := loopO fun k295 g291 =>
  letO (x14.text.length : Int) fun x343 =>
  letO (decide (g291 < x343)) fun x345 =>
  iteB x345
  (bindO (byte' x14.text g291) fun x348 =>
  bindO (F_event_nameByte x348) fun x351 =>
  iteB x351
  (letO (IntKind.i64.wrap (g291 + 1)) fun x355 =>
  k295 x355)
  (some g291))
  none
def F_event_reader_advance_L2 (x14 : EventReader) (x562 : Int) : Int → Option EventReader := loopO fun k706 g702 =>
  letO (decide (g702 < x562)) fun x710 =>
  iteB x710
  (bindO (at' ([[60, 61], [33, 61], [62, 61], [60], [61], [62], [40], [41]] : List Str) g702) fun x746 =>
  bindO (sub' x14.text x14.at_ (x14.text.length : Int)) fun x758 =>
  bindO (F_strings_HasPrefix x758 x746) fun x761 =>
  iteB x761
  (letO (x746.length : Int) fun x767 =>
  letO (IntKind.i64.wrap (x14.at_ + x767)) fun x769 =>
  some (EventReader.mk x14.text x769 (EventToken.mk 4 x14.at_ 0 x746) x14.r))
  (letO (IntKind.i64.wrap (g702 + 1)) fun x774 =>
  k706 x774))
  none
def F_event_reader_advance (p0 : EventReader) : Option EventReader :=
  bindO (F_event_reader_blanks p0) fun x14 =>
  letO (x14.text.length : Int) fun x35 =>
  letO (decide (x14.at_ = x35)) fun x37 =>
  iteB x37
  (some (EventReader.mk x14.text x14.at_ (EventToken.mk 0 x14.at_ 0 []) x14.r))
  (bindO (F_event_reader_advance_L1 x14 x14.at_) fun g167 =>
  letO (decide (x14.at_ < g167)) fun x382 =>
  iteB x382
  (bindO (sub' x14.text x14.at_ g167) fun x388 =>
  bindO (F_event_reader_run (EventReader.mk x14.text g167 (EventToken.mk 0 x14.at_ 0 x388) x14.r)) fun x393 =>
  some x393)
  (letO ([[60, 61], [33, 61], [62, 61], [60], [61], [62], [40], [41]] : List Str) fun _ =>
  letO ((([[60, 61], [33, 61], [62, 61], [60], [61], [62], [40], [41]] : List Str)).length : Int) fun x562 =>
  F_event_reader_advance_L2 x14 x562 0))

def F_event_reader_is (p0 : Option EventReader) (p1 : Str) : Option Bool :=
  bindO (bindO p0 fun x78 =>
  letO (decide (x78.now.kind = 1)) fun x98 =>
  bindO (iteB x98
  (some true)
  (bindO p0 fun x104 =>
  letO (decide (x104.now.kind = 4)) fun x124 =>
  some x124)) fun j100 =>
  iteB j100
  (bindO p0 fun x127 =>
  letO (decide ((x127.now.text : Str) = p1)) fun x147 =>
  some x147)
  (some false)) fun g75 =>
  some g75

def F_event_reader_take (p0 : EventReader) (p1 : Int) : Option (EventToken × EventReader) :=
  letO (decide (p0.now.kind ≠ p1)) fun x23 =>
  iteB x23
  none
  (bindO (F_event_reader_advance p0) fun x32 =>
  some (p0.now, x32))

def F_event_reader_name (p0 : EventReader) : Option (Str × EventReader) :=
  bindO (F_event_reader_take p0 2) fun ⟨x15, x16⟩ =>
  some (x15.text, x16)

def F_event_reader_must (p0 : EventReader) (p1 : Str) : Option EventReader :=
  bindO (F_event_reader_is (some p0) p1) fun x27 =>
  letO (!x27) fun x31 =>
  iteB x31
  none
  (bindO (F_event_reader_advance p0) fun x34 =>
  some x34)

def F_slices_Index___string_string__L1 (p0 : List Str) (p1 : Str) (k108 : Unit → Option Int) (x111 : Int) : Int → Option Int := loopO fun k211 g207 =>
  letO (decide (g207 < x111)) fun x215 =>
  iteB x215
  (bindO (at' p0 g207) fun x241 =>
  letO (decide ((p1 : Str) = x241)) fun x253 =>
  iteB x253
  (some g207)
  (letO (IntKind.i64.wrap (g207 + 1)) fun x257 =>
  k211 x257))
  (k108 ())
def F_slices_Index___string_string_ (p0 : List Str) (p1 : Str) : Option Int :=
  joinO (fun _ =>
  some (-1)) fun k108 =>
  letO (p0.length : Int) fun x111 =>
  F_slices_Index___string_string__L1 p0 p1 k108 x111 0

def F_slices_Contains___string_string_ (p0 : List Str) (p1 : Str) : Option Bool :=
  bindO (F_slices_Index___string_string_ p0 p1) fun x6 =>
  letO (decide (0 ≤ x6)) fun x10 =>
  some x10

def F_event_reader_begins (p0 : Option EventReader) : Option Bool :=
  bindO p0 fun x67 =>
  letO (decide (x67.now.kind = 2)) fun x88 =>
  iteB x88
  (some true)
  (letO (decide (x67.now.kind = 1)) fun x93 =>
  iteB x93
  (letO ([[116, 114, 117, 101], [102, 97, 108, 115, 101], [115, 116, 101, 97, 100, 121], [112, 104, 97, 115, 101], [114, 117, 108, 101], [110, 111, 116], [102, 111, 114], [119, 105, 116, 104, 105, 110], [99, 111, 117, 110, 116], [114, 105, 115, 101, 115], [115, 105, 110, 99, 101]] : List Str) fun _ =>
  bindO p0 fun x102 =>
  bindO (F_slices_Contains___string_string_ ([[116, 114, 117, 101], [102, 97, 108, 115, 101], [115, 116, 101, 97, 100, 121], [112, 104, 97, 115, 101], [114, 117, 108, 101], [110, 111, 116], [102, 111, 114], [119, 105, 116, 104, 105, 110], [99, 111, 117, 110, 116], [114, 105, 115, 101, 115], [115, 105, 110, 99, 101]] : List Str) x102.now.text) fun x123 =>
  some x123)
  (bindO (F_event_reader_is p0 [40]) fun x129 =>
  some x129))

def F_event_reader_number (p0 : EventReader) : Option (Int × EventReader) :=
  bindO (F_event_reader_take p0 3) fun ⟨x15, x16⟩ =>
  some (x15.n, x16)

def F_event_reader_comparison (p0 : EventReader) : Option (Cond × EventReader) :=
  bindO (F_event_reader_name p0) fun ⟨x20, x21⟩ =>
  bindO (F_slices_Index___string_string_ zU.l x21.now.text) fun x42 =>
  letO (decide (x21.now.kind ≠ 4)) fun x65 =>
  iteB x65
  none
  (letO (decide (x42 < 1)) fun x68 =>
  iteB x68
  none
  (bindO (F_event_reader_advance x21) fun x72 =>
  letO (decide (x72.now.kind = 2)) fun x88 =>
  iteB x88
  none
  (bindO (F_event_reader_number x72) fun ⟨x92, x93⟩ =>
  some (Cond.mk 3 x20 [] x42 x92 0 [], x93))))



def F_event_reader_part_1_pdd_L1 (rfA : EventReader → Int → Option (Cond × EventReader)) (p0 : Int) (c1 : Int) : (List Cond) × Int × Str × Int × Int × Int × Int × Str × (List Str) × (List MoveT) × (List Rule) → Option ((List Cond) × Str × Int × Int × Int × Int × Str × (List Str) × (List MoveT) × (List Rule)) := loopO fun k344 ⟨g322, g324, g325, g326, g327, g328, g329, g330, g332, g335, g338⟩ =>
  letO (decide (g324 < p0)) fun x348 =>
  iteB x348
  (letO (IntKind.i64.wrap (c1 + 1)) fun x378 =>
  bindO (rfA (EventReader.mk g325 g326 (EventToken.mk g327 g328 g329 g330) (Rules.mk g332 g335 g338)) x378) fun ⟨x380, x381⟩ =>
  letO ([x380] : List Cond) fun _ =>
  bindO (app' 88 g322 ([x380] : List Cond)) fun x398 =>
  letO (IntKind.i64.wrap (g324 + 1)) fun x402 =>
  k344 (x398, x402, x381.text, x381.at_, x381.now.kind, x381.now.at_, x381.now.n, x381.now.text, x381.r.Phases, x381.r.Moves, x381.r.Rules))
  (some (g322, g325, g326, g327, g328, g329, g330, g332, g335, g338))
def F_event_reader_part_1_pdd (rfA : EventReader → Int → Option (Cond × EventReader)) (p0 : Int) (c0p : EventReader) (c1 : Int) : Option ((List Cond) × EventReader) :=
  bindO (F_event_reader_part_1_pdd_L1 rfA p0 c1 ([], 0, c0p.text, c0p.at_, c0p.now.kind, c0p.now.at_, c0p.now.n, c0p.now.text, c0p.r.Phases, c0p.r.Moves, c0p.r.Rules)) fun ⟨g165, g167, g168, g169, g170, g171, g172, g174, g177, g180⟩ =>
  some (g165, EventReader.mk g167 g168 (EventToken.mk g169 g170 g171 g172) (Rules.mk g174 g177 g180))

def F_event_reader_part_B (rfB : EventReader → Int → Option (Cond × EventReader)) (rfA : EventReader → Int → Option (Cond × EventReader)) (p0 : EventReader) (p1 : Int) : Option (Cond × EventReader) :=
  bindO (F_event_reader_begins (some p0)) fun x39 =>
  letO (!x39) fun x43 =>
  iteB x43
  none
  (letO (decide (60 ≤ p1)) fun x52 =>
  iteB x52
  none
  (letO (decide (p0.now.kind = 2)) fun x76 =>
  iteB x76
  (bindO (F_event_reader_comparison p0) fun ⟨x80, x81⟩ =>
  some (x80, x81))
  (bindO (F_event_reader_advance p0) fun x96 =>
  letO (decide ((p0.now.text : Str) = [116, 114, 117, 101])) fun x175 =>
  iteB x175
  (some (Cond.mk 1 [] [] 0 0 0 [], x96))
  (letO (decide ((p0.now.text : Str) = [102, 97, 108, 115, 101])) fun x182 =>
  iteB x182
  none
  (letO (decide ((p0.now.text : Str) = [115, 116, 101, 97, 100, 121])) fun x186 =>
  iteB x186
  none
  (letO (decide ((p0.now.text : Str) = [112, 104, 97, 115, 101])) fun x190 =>
  iteB x190
  none
  (letO (decide ((p0.now.text : Str) = [114, 117, 108, 101])) fun x194 =>
  iteB x194
  none
  (letO (decide ((p0.now.text : Str) = [110, 111, 116])) fun x198 =>
  iteB x198
  (bindO (F_event_reader_part_1_pdd rfA 1 x96 p1) fun ⟨x202, x203⟩ =>
  some (Cond.mk 8 [] [] 0 0 0 x202, x203))
  (letO (decide ((p0.now.text : Str) = [102, 111, 114])) fun x220 =>
  iteB x220
  none
  (letO (decide ((p0.now.text : Str) = [119, 105, 116, 104, 105, 110])) fun x224 =>
  iteB x224
  none
  (letO (decide ((p0.now.text : Str) = [99, 111, 117, 110, 116])) fun x228 =>
  iteB x228
  none
  (letO (decide ((p0.now.text : Str) = [114, 105, 115, 101, 115])) fun x232 =>
  iteB x232
  none
  (letO (decide ((p0.now.text : Str) = [115, 105, 110, 99, 101])) fun x236 =>
  iteB x236
  none
  (letO (IntKind.i64.wrap (p1 + 1)) fun x240 =>
  bindO (rfB x96 x240) fun ⟨x242, x243⟩ =>
  bindO (F_event_reader_must x243 [41]) fun x260 =>
  some (x242, x260)))))))))))))))

def F_event_reader_part_R (rfB : EventReader → Int → Option (Cond × EventReader)) : Nat → EventReader → Int → Option (Cond × EventReader)
  | 0 => fun _ _ => none
  | n + 1 => F_event_reader_part_B rfB (F_event_reader_part_R rfB n)
def F_event_reader_part (rfB : EventReader → Int → Option (Cond × EventReader)) : EventReader → Int → Option (Cond × EventReader) := F_event_reader_part_R rfB FU

def F_event_reader_cond_1_1_pdd (rfB : EventReader → Int → Option (Cond × EventReader)) (c0p : EventReader) (c1 : Int) : Option (Cond × EventReader) :=
  bindO (F_event_reader_part rfB c0p c1) fun ⟨x24, x25⟩ =>
  some (x24, x25)

def F_event_reader_list_event_reader_cond_1_1_pa0d_L1 (p1 : Str) (x25 : EventReader) : Unit → Option Unit := loopO fun k122 _ =>
  bindO (F_event_reader_is (some x25) p1) fun x137 =>
  iteB x137
  none
  (some ())
def F_event_reader_list_event_reader_cond_1_1_pa0d (rfB : EventReader → Int → Option (Cond × EventReader)) (p0 : EventReader) (p1 : Str) (p2 : Int) (p3c1 : Int) : Option (Cond × EventReader) :=
  bindO (F_event_reader_cond_1_1_pdd rfB p0 p3c1) fun ⟨x24, x25⟩ =>
  letO ([x24] : List Cond) fun _ =>
  bindO (F_event_reader_list_event_reader_cond_1_1_pa0d_L1 p1 x25 ()) fun _ =>
  letO ((([x24] : List Cond)).length : Int) fun x169 =>
  letO (decide (x169 = 1)) fun x174 =>
  iteB x174
  (bindO (at' ([x24] : List Cond) 0) fun x178 =>
  some (x178, x25))
  none

def F_event_reader_cond_1_pdd (rfB : EventReader → Int → Option (Cond × EventReader)) (c0p : EventReader) (c1 : Int) : Option (Cond × EventReader) :=
  bindO (F_event_reader_list_event_reader_cond_1_1_pa0d rfB c0p [97, 110, 100] 9 c1) fun ⟨x24, x25⟩ =>
  some (x24, x25)

def F_event_reader_list_event_reader_cond_1_pa0d_L1 (rfB : EventReader → Int → Option (Cond × EventReader)) (p1 : Str) (p3c1 : Int) : (List Cond) × Str × Int × Int × Int × Int × Str × (List Str) × (List MoveT) × (List Rule) → Option ((List Cond) × Str × Int × Int × Int × Int × Str × (List Str) × (List MoveT) × (List Rule)) := loopO fun k322 ⟨g302, g304, g305, g306, g307, g308, g309, g311, g314, g317⟩ =>
  bindO (F_event_reader_is (some (EventReader.mk g304 g305 (EventToken.mk g306 g307 g308 g309) (Rules.mk g311 g314 g317))) p1) fun x337 =>
  iteB x337
  (bindO (F_event_reader_advance (EventReader.mk g304 g305 (EventToken.mk g306 g307 g308 g309) (Rules.mk g311 g314 g317))) fun x343 =>
  bindO (F_event_reader_cond_1_pdd rfB x343 p3c1) fun ⟨x353, x354⟩ =>
  letO ([x353] : List Cond) fun _ =>
  bindO (app' 88 g302 ([x353] : List Cond)) fun x371 =>
  k322 (x371, x354.text, x354.at_, x354.now.kind, x354.now.at_, x354.now.n, x354.now.text, x354.r.Phases, x354.r.Moves, x354.r.Rules))
  (some (g302, g304, g305, g306, g307, g308, g309, g311, g314, g317))
def F_event_reader_list_event_reader_cond_1_pa0d (rfB : EventReader → Int → Option (Cond × EventReader)) (p0 : EventReader) (p1 : Str) (p2 : Int) (p3c1 : Int) : Option (Cond × EventReader) :=
  bindO (F_event_reader_cond_1_pdd rfB p0 p3c1) fun ⟨x24, x25⟩ =>
  letO ([x24] : List Cond) fun _ =>
  bindO (F_event_reader_list_event_reader_cond_1_pa0d_L1 rfB p1 p3c1 (([x24] : List Cond), x25.text, x25.at_, x25.now.kind, x25.now.at_, x25.now.n, x25.now.text, x25.r.Phases, x25.r.Moves, x25.r.Rules)) fun ⟨g165, g167, g168, g169, g170, g171, g172, g174, g177, g180⟩ =>
  letO (g165.length : Int) fun x402 =>
  letO (decide (x402 = 1)) fun x407 =>
  iteB x407
  (bindO (at' g165 0) fun x411 =>
  some (x411, EventReader.mk g167 g168 (EventToken.mk g169 g170 g171 g172) (Rules.mk g174 g177 g180)))
  (some (Cond.mk p2 [] [] 0 0 0 g165, EventReader.mk g167 g168 (EventToken.mk g169 g170 g171 g172) (Rules.mk g174 g177 g180)))

def F_event_reader_cond_B (rfB : EventReader → Int → Option (Cond × EventReader)) (p0 : EventReader) (p1 : Int) : Option (Cond × EventReader) :=
  bindO (F_event_reader_list_event_reader_cond_1_pa0d rfB p0 [111, 114] 10 p1) fun ⟨x26, x27⟩ =>
  some (x26, x27)

def F_event_reader_cond_R : Nat → EventReader → Int → Option (Cond × EventReader)
  | 0 => fun _ _ => none
  | n + 1 => F_event_reader_cond_B (F_event_reader_cond_R n)
def F_event_reader_cond : EventReader → Int → Option (Cond × EventReader) := F_event_reader_cond_R FU

def F_event_reader_rules_L1 (x84 : EventReader) : Unit → Option (Str × Int × Int × Int × Int × Str × (List Str) × (List MoveT) × (List Rule)) := loopO fun k131 _ =>
  bindO (F_event_reader_is (some x84) [112, 104, 97, 115, 101]) fun x146 =>
  iteB x146
  none
  (some (x84.text, x84.at_, x84.now.kind, x84.now.at_, x84.now.n, x84.now.text, x84.r.Phases, x84.r.Moves, x84.r.Rules))
def F_event_reader_rules_L2 (g65 : Str) (g66 : Int) (g67 : Int) (g68 : Int) (g69 : Int) (g70 : Str) (g72 : List Str) (g75 : List MoveT) (g78 : List Rule) : Unit → Option Unit := loopO fun k231 _ =>
  bindO (F_event_reader_is (some (EventReader.mk g65 g66 (EventToken.mk g67 g68 g69 g70) (Rules.mk g72 g75 g78))) [109, 111, 118, 101]) fun x246 =>
  iteB x246
  none
  (some ())
def F_event_reader_rules_L3 : Str × Int × Int × Int × Int × Str × (List Str) × (List MoveT) × (List Rule) → Option (Str × Int × Int × Int × Int × Str × (List Str) × (List MoveT) × (List Rule)) := loopO fun k655 ⟨g637, g638, g639, g640, g641, g642, g644, g647, g650⟩ =>
  bindO (F_event_reader_is (some (EventReader.mk g637 g638 (EventToken.mk g639 g640 g641 g642) (Rules.mk g644 g647 g650))) [114, 117, 108, 101]) fun x670 =>
  iteB x670
  (bindO (F_event_reader_advance (EventReader.mk g637 g638 (EventToken.mk g639 g640 g641 g642) (Rules.mk g644 g647 g650))) fun x676 =>
  bindO (F_event_reader_name x676) fun ⟨x687, x688⟩ =>
  bindO (F_event_reader_must x688 [105, 102]) fun x703 =>
  bindO (F_event_reader_cond x703 0) fun ⟨x714, x715⟩ =>
  letO ([Rule.mk x687 x714] : List Rule) fun _ =>
  bindO (app' 104 x715.r.Rules ([Rule.mk x687 x714] : List Rule)) fun x735 =>
  k655 (x715.text, x715.at_, x715.now.kind, x715.now.at_, x715.now.n, x715.now.text, x715.r.Phases, x715.r.Moves, x735))
  (some (g637, g638, g639, g640, g641, g642, g644, g647, g650))
def F_event_reader_rules (p0 : EventReader) : Option EventReader :=
  bindO (bindO (F_event_reader_advance p0) fun x84 =>
  F_event_reader_rules_L1 x84 ()) fun ⟨g65, g66, g67, g68, g69, g70, g72, g75, g78⟩ =>
  bindO (F_event_reader_rules_L2 g65 g66 g67 g68 g69 g70 g72 g75 g78 ()) fun _ =>
  bindO (F_event_reader_rules_L3 (g65, g66, g67, g68, g69, g70, g72, g75, g78)) fun ⟨g438, g439, g440, g441, g442, g443, g445, g448, g451⟩ =>
  letO (decide (g440 ≠ 0)) fun x742 =>
  iteB x742
  none
  (some (EventReader.mk g438 g439 (EventToken.mk g440 g441 g442 g443) (Rules.mk g445 g448 g451)))

def F_caught (p0 : EventReader) : Option (EventFault × EventReader) := bindO (F_event_reader_rules p0) fun x => some (⟨0, 0⟩, x)


def F_event_small_B_L1 (rfC : Cond → Int → Int → Option (Bool × Int)) (p0 : Cond) (p1 : Int) (k201 : Int → Option (Bool × Int)) (x204 : Int) : Int × Int → Option (Bool × Int) := loopO fun k362 ⟨g357, g358⟩ =>
  letO (decide (g357 < x204)) fun x366 =>
  iteB x366
  (bindO (at' p0.Kids g357) fun x405 =>
  letO (IntKind.i64.wrap (p1 - 1)) fun x425 =>
  bindO (rfC x405 x425 g358) fun ⟨x427, x428⟩ =>
  letO (!x427) fun x432 =>
  iteB x432
  (some (false, x428))
  (letO (IntKind.i64.wrap (g357 + 1)) fun x436 =>
  k362 (x436, x428)))
  (k201 g358)
def F_event_small_B (rfC : Cond → Int → Int → Option (Bool × Int)) (p0 : Cond) (p1 : Int) (p2 : Int) : Option (Bool × Int) :=
  letO (IntKind.i64.wrap (p2 + 1)) fun x10 =>
  bindO (letO (decide (p1 = 0)) fun x32 =>
  iteB x32
  (some true)
  (letO (decide (200 < x10)) fun x35 =>
  some x35)) fun g29 =>
  iteB g29
  (some (false, x10))
  (joinO (fun g199 =>
  some (true, g199)) fun k201 =>
  letO (p0.Kids.length : Int) fun x204 =>
  F_event_small_B_L1 rfC p0 p1 k201 x204 (0, x10))

def F_event_small_R : Nat → Cond → Int → Int → Option (Bool × Int)
  | 0 => fun _ _ _ => none
  | n + 1 => F_event_small_B (F_event_small_R n)
def F_event_small : Cond → Int → Int → Option (Bool × Int) := F_event_small_R FU

def F_event_fieldsOf (p0 : Int) : Option (EventFields × Bool) :=
  bindO (letO (decide (p0 = 1)) fun x108 =>
  iteB x108
  (some x108)
  (letO (decide (p0 = 2)) fun x111 =>
  some x111)) fun g104 =>
  iteB g104
  (some (EventFields.mk false false false false false 0 0, true))
  (letO (decide (p0 = 3)) fun x117 =>
  iteB x117
  (some (EventFields.mk true false true true false 0 0, true))
  (letO (decide (p0 = 4)) fun x123 =>
  iteB x123
  (some (EventFields.mk true true true false false 0 0, true))
  (letO (decide (p0 = 5)) fun x129 =>
  iteB x129
  (some (EventFields.mk true false false true true 0 0, true))
  (bindO (letO (decide (p0 = 6)) fun x144 =>
  iteB x144
  (some x144)
  (letO (decide (p0 = 7)) fun x147 =>
  some x147)) fun g140 =>
  iteB g140
  (some (EventFields.mk true false false false false 0 0, true))
  (bindO (letO (decide (p0 = 8)) fun x162 =>
  iteB x162
  (some x162)
  (letO (decide (p0 = 15)) fun x165 =>
  some x165)) fun g158 =>
  iteB g158
  (some (EventFields.mk false false false false false 1 1, true))
  (bindO (letO (decide (p0 = 9)) fun x180 =>
  iteB x180
  (some x180)
  (letO (decide (p0 = 10)) fun x183 =>
  some x183)) fun g176 =>
  iteB g176
  (some (EventFields.mk false false false false false 2 200, true))
  (bindO (letO (decide (p0 = 11)) fun x198 =>
  iteB x198
  (some x198)
  (letO (decide (p0 = 12)) fun x201 =>
  some x201)) fun g194 =>
  iteB g194
  (some (EventFields.mk false false false false true 1 1, true))
  (letO (decide (p0 = 13)) fun x207 =>
  iteB x207
  (some (EventFields.mk false false false true true 1 1, true))
  (letO (decide (p0 = 14)) fun x213 =>
  iteB x213
  (some (EventFields.mk false false false false false 2 2, true))
  (some (EventFields.mk false false false false false 0 0, false)))))))))))

def F_event_checkOne (p0 : Cond) : Option Int :=
  bindO (F_event_fieldsOf p0.Kind) fun ⟨x9, x10⟩ =>
  letO (!x10) fun x25 =>
  iteB x25
  (some 7)
  (bindO (letO (!x9.name) fun x152 =>
  bindO (iteB x152
  (letO (decide ((p0.Name : Str) ≠ [])) fun x158 =>
  some x158)
  (some false)) fun j154 =>
  bindO (iteB j154
  (some true)
  (letO (!x9.other) fun x164 =>
  iteB x164
  (letO (decide ((p0.Other : Str) ≠ [])) fun x167 =>
  some x167)
  (some false))) fun j160 =>
  bindO (iteB j160
  (some true)
  (letO (!x9.op) fun x173 =>
  iteB x173
  (letO (decide (p0.Op ≠ 0)) fun x176 =>
  some x176)
  (some false))) fun j169 =>
  bindO (iteB j169
  (some true)
  (letO (!x9.n) fun x182 =>
  iteB x182
  (letO (decide (p0.N ≠ 0)) fun x185 =>
  some x185)
  (some false))) fun j178 =>
  bindO (iteB j178
  (some true)
  (letO (!x9.frames) fun x191 =>
  iteB x191
  (letO (decide (p0.Frames ≠ 0)) fun x194 =>
  some x194)
  (some false))) fun j187 =>
  iteB j187
  (some true)
  (letO (p0.Kids.length : Int) fun x197 =>
  bindO (F_event_within x197 x9.least x9.most) fun x203 =>
  letO (!x203) fun x207 =>
  some x207)) fun g149 =>
  iteB g149
  (some 2)
  (bindO (bindO (iteB x9.name
  (bindO (F_event_isName p0.Name) fun x328 =>
  letO (!x328) fun x332 =>
  some x332)
  (some false)) fun j323 =>
  iteB j323
  (some true)
  (iteB x9.other
  (bindO (F_event_isName p0.Other) fun x337 =>
  letO (!x337) fun x341 =>
  some x341)
  (some false))) fun g320 =>
  iteB g320
  (some 8)
  (bindO (iteB x9.op
  (bindO (F_event_within p0.Op 1 6) fun x358 =>
  letO (!x358) fun x362 =>
  some x362)
  (some false)) fun g353 =>
  iteB g353
  (some 7)
  (bindO (iteB x9.frames
  (bindO (F_event_within p0.Frames 1 4096) fun x379 =>
  letO (!x379) fun x383 =>
  some x383)
  (some false)) fun g374 =>
  iteB g374
  (some 9)
  (bindO (letO (decide (p0.Kind = 13)) fun x400 =>
  iteB x400
  (bindO (F_event_within p0.N 1 p0.Frames) fun x404 =>
  letO (!x404) fun x408 =>
  some x408)
  (some false)) fun g397 =>
  iteB g397
  (some 9)
  (bindO (bindO (iteB x9.n
  (bindO (F_event_within p0.N (-1125899906842624) 1125899906842624) fun x437 =>
  letO (!x437) fun x441 =>
  some x441)
  (some false)) fun j432 =>
  iteB j432
  (some true)
  (letO (decide (p0.Kind = 5)) fun x444 =>
  iteB x444
  (letO (decide (p0.N < 0)) fun x447 =>
  some x447)
  (some false))) fun g429 =>
  iteB g429
  (some 9)
  (some 0)))))))


def F_event_each_event_checkOne_B_L1 (rfD : Cond → Option Int) (p0 : Cond) (k186 : Unit → Option Int) (x189 : Int) : Int → Option Int := loopO fun k341 g337 =>
  letO (decide (g337 < x189)) fun x345 =>
  iteB x345
  (bindO (at' p0.Kids g337) fun x383 =>
  bindO (rfD x383) fun x404 =>
  letO (decide (x404 ≠ 0)) fun x409 =>
  iteB x409
  (some x404)
  (letO (IntKind.i64.wrap (g337 + 1)) fun x413 =>
  k341 x413))
  (k186 ())
def F_event_each_event_checkOne_B (rfD : Cond → Option Int) (p0 : Cond) : Option Int :=
  bindO (F_event_checkOne p0) fun x21 =>
  letO (decide (x21 ≠ 0)) fun x26 =>
  iteB x26
  (some x21)
  (joinO (fun _ =>
  some 0) fun k186 =>
  letO (p0.Kids.length : Int) fun x189 =>
  F_event_each_event_checkOne_B_L1 rfD p0 k186 x189 0)

def F_event_each_event_checkOne_R : Nat → Cond → Option Int
  | 0 => fun _ => none
  | n + 1 => F_event_each_event_checkOne_B (F_event_each_event_checkOne_R n)
def F_event_each_event_checkOne : Cond → Option Int := F_event_each_event_checkOne_R FU

def F_event_CheckCond (p0 : Cond) : Option Int :=
  bindO (F_event_small p0 20 0) fun ⟨x24, x25⟩ =>
  letO (!x24) fun x29 =>
  iteB x29
  (some 3)
  (bindO (F_event_each_event_checkOne p0) fun x35 =>
  some x35)


def F_ref6_nodes_B_L1 (rfE : Cond → Int → Option Int) (p0 : Cond) (p1 : Int) : Int × Int → Option Int := loopO fun k348 ⟨g343, g344⟩ =>
  bindO (letO (p0.Kids.length : Int) fun x379 =>
  letO (decide (g344 < x379)) fun x384 =>
  iteB x384
  (letO (decide (g343 ≤ p1)) fun x387 =>
  some x387)
  (some false)) fun g376 =>
  iteB g376
  (bindO (at' p0.Kids g344) fun x415 =>
  letO (IntKind.i64.wrap (p1 - g343)) fun x430 =>
  bindO (rfE x415 x430) fun x433 =>
  letO (IntKind.i64.wrap (g343 + x433)) fun x437 =>
  letO (IntKind.i64.wrap (g344 + 1)) fun x439 =>
  k348 (x437, x439))
  (some g343)
def F_ref6_nodes_B (rfE : Cond → Int → Option Int) (p0 : Cond) (p1 : Int) : Option Int :=
  bindO (F_ref6_nodes_B_L1 rfE p0 p1 (1, 0)) fun g177 =>
  some g177

def F_ref6_nodes_R : Nat → Cond → Int → Option Int
  | 0 => fun _ _ => none
  | n + 1 => F_ref6_nodes_B (F_ref6_nodes_R n)
def F_ref6_nodes : Cond → Int → Option Int := F_ref6_nodes_R FU


def F_ref6_deeper_B_L1 (rfF : Cond → Int → Option Bool) (p0 : Cond) (p1 : Int) (k171 : Unit → Option Bool) : Int → Option Bool := loopO fun k323 g319 =>
  letO (p0.Kids.length : Int) fun x337 =>
  letO (decide (g319 < x337)) fun x342 =>
  iteB x342
  (bindO (at' p0.Kids g319) fun x372 =>
  letO (IntKind.i64.wrap (p1 - 1)) fun x387 =>
  bindO (rfF x372 x387) fun x390 =>
  iteB x390
  (some true)
  (letO (IntKind.i64.wrap (g319 + 1)) fun x396 =>
  k323 x396))
  (k171 ())
def F_ref6_deeper_B (rfF : Cond → Int → Option Bool) (p0 : Cond) (p1 : Int) : Option Bool :=
  letO (decide (p1 = 0)) fun x14 =>
  iteB x14
  (some true)
  (joinO (fun _ =>
  some false) fun k171 =>
  F_ref6_deeper_B_L1 rfF p0 p1 k171 0)

def F_ref6_deeper_R : Nat → Cond → Int → Option Bool
  | 0 => fun _ _ => none
  | n + 1 => F_ref6_deeper_B (F_ref6_deeper_R n)
def F_ref6_deeper : Cond → Int → Option Bool := F_ref6_deeper_R FU

def F_ref6_outside (p0 : Int) (p1 : Int) (p2 : Int) : Option Bool :=
  bindO (letO (decide (p0 < p1)) fun x10 =>
  iteB x10
  (some true)
  (letO (decide (p2 < p0)) fun x13 =>
  some x13)) fun g7 =>
  some g7

def F_ref6_fields (p0 : Int) : Option (Bool × Bool × Bool × Bool × Bool × Int) :=
  letO (decide (p0 = 3)) fun x75 =>
  iteB x75
  (some (true, false, true, true, false, 0))
  (letO (decide (p0 = 4)) fun x80 =>
  iteB x80
  (some (true, true, true, false, false, 0))
  (letO (decide (p0 = 5)) fun x85 =>
  iteB x85
  (some (true, false, false, true, true, 0))
  (bindO (letO (decide (p0 = 6)) fun x99 =>
  iteB x99
  (some x99)
  (letO (decide (p0 = 7)) fun x102 =>
  some x102)) fun g95 =>
  iteB g95
  (some (true, false, false, false, false, 0))
  (bindO (letO (decide (p0 = 8)) fun x116 =>
  iteB x116
  (some x116)
  (letO (decide (p0 = 15)) fun x119 =>
  some x119)) fun g112 =>
  iteB g112
  (some (false, false, false, false, false, 1))
  (bindO (letO (decide (p0 = 9)) fun x133 =>
  iteB x133
  (some x133)
  (letO (decide (p0 = 10)) fun x136 =>
  some x136)) fun g129 =>
  iteB g129
  (some (false, false, false, false, false, (-1)))
  (bindO (letO (decide (p0 = 11)) fun x150 =>
  iteB x150
  (some x150)
  (letO (decide (p0 = 12)) fun x153 =>
  some x153)) fun g146 =>
  iteB g146
  (some (false, false, false, false, true, 1))
  (letO (decide (p0 = 13)) fun x158 =>
  iteB x158
  (some (false, false, false, true, true, 1))
  (letO (decide (p0 = 14)) fun x163 =>
  iteB x163
  (some (false, false, false, false, false, 2))
  (some (false, false, false, false, false, 0))))))))))

def F_ref6_words : Option (List Str) :=
  letO ([[112, 104, 97, 115, 101], [109, 111, 118, 101], [114, 117, 108, 101], [105, 102], [111, 114], [97, 110, 100], [116, 114, 117, 101], [102, 97, 108, 115, 101], [115, 116, 101, 97, 100, 121], [110, 111, 116], [102, 111, 114], [119, 105, 116, 104, 105, 110], [99, 111, 117, 110, 116], [111, 102], [114, 105, 115, 101, 115], [115, 105, 110, 99, 101]] : List Str) fun _ =>
  some ([[112, 104, 97, 115, 101], [109, 111, 118, 101], [114, 117, 108, 101], [105, 102], [111, 114], [97, 110, 100], [116, 114, 117, 101], [102, 97, 108, 115, 101], [115, 116, 101, 97, 100, 121], [110, 111, 116], [102, 111, 114], [119, 105, 116, 104, 105, 110], [99, 111, 117, 110, 116], [111, 102], [114, 105, 115, 101, 115], [115, 105, 110, 99, 101]] : List Str)

def F_ref6_Reserved_L1 (p0 : Str) (x3 : List Str) (k126 : Unit → Option Bool) : Int → Option Bool := loopO fun k242 g238 =>
  letO (x3.length : Int) fun x256 =>
  letO (decide (g238 < x256)) fun x261 =>
  iteB x261
  (bindO (at' x3 g238) fun x282 =>
  letO (decide ((x282 : Str) = p0)) fun x293 =>
  iteB x293
  (some true)
  (letO (IntKind.i64.wrap (g238 + 1)) fun x297 =>
  k242 x297))
  (k126 ())
def F_ref6_Reserved (p0 : Str) : Option Bool :=
  bindO (F_ref6_words) fun x3 =>
  joinO (fun _ =>
  some false) fun k126 =>
  F_ref6_Reserved_L1 p0 x3 k126 0

def F_ref6_IsName_L1 (p0 : Str) (k175 : Unit → Option Bool) : Int → Option Bool := loopO fun k347 g343 =>
  letO (p0.length : Int) fun x358 =>
  letO (decide (g343 < x358)) fun x360 =>
  iteB x360
  (bindO (byte' p0 g343) fun x398 =>
  bindO (letO (decide (97 ≤ x398)) fun x428 =>
  bindO (iteB x428
  (letO (decide (x398 ≤ 122)) fun x434 =>
  some x434)
  (some false)) fun j430 =>
  iteB j430
  (some false)
  (letO (decide (0 < g343)) fun x437 =>
  iteB x437
  (letO (decide (48 ≤ x398)) fun x440 =>
  bindO (iteB x440
  (letO (decide (x398 ≤ 57)) fun x446 =>
  some x446)
  (some false)) fun j442 =>
  iteB j442
  (some false)
  (letO (decide (x398 = 45)) fun x449 =>
  letO (!x449) fun x451 =>
  some x451))
  (some true))) fun g425 =>
  iteB g425
  (some false)
  (letO (IntKind.i64.wrap (g343 + 1)) fun x455 =>
  k347 x455))
  (k175 ())
def F_ref6_IsName (p0 : Str) : Option Bool :=
  joinO (fun _ =>
  bindO (letO (decide ((p0 : Str) ≠ [])) fun x478 =>
  bindO (iteB x478
  (letO (p0.length : Int) fun x484 =>
  letO (decide (x484 ≤ 30)) fun x486 =>
  some x486)
  (some false)) fun j480 =>
  iteB j480
  (bindO (F_ref6_Reserved p0) fun x490 =>
  letO (!x490) fun x494 =>
  some x494)
  (some false)) fun g475 =>
  some g475) fun k175 =>
  F_ref6_IsName_L1 p0 k175 0

def F_ref6_nodeFault (p0 : Cond) : Option Int :=
  bindO (F_ref6_outside p0.Kind 1 15) fun x18 =>
  iteB x18
  (some 7)
  (bindO (F_ref6_fields p0.Kind) fun ⟨x26, x27, x28, x29, x30, x31⟩ =>
  bindO (letO (!x26) fun x126 =>
  bindO (iteB x126
  (letO (decide ((p0.Name : Str) ≠ [])) fun x132 =>
  some x132)
  (some false)) fun j128 =>
  bindO (iteB j128
  (some true)
  (letO (!x27) fun x138 =>
  iteB x138
  (letO (decide ((p0.Other : Str) ≠ [])) fun x141 =>
  some x141)
  (some false))) fun j134 =>
  bindO (iteB j134
  (some true)
  (letO (!x28) fun x147 =>
  iteB x147
  (letO (decide (p0.Op ≠ 0)) fun x150 =>
  some x150)
  (some false))) fun j143 =>
  bindO (iteB j143
  (some true)
  (letO (!x29) fun x156 =>
  iteB x156
  (letO (decide (p0.N ≠ 0)) fun x159 =>
  some x159)
  (some false))) fun j152 =>
  iteB j152
  (some true)
  (letO (!x30) fun x162 =>
  iteB x162
  (letO (decide (p0.Frames ≠ 0)) fun x165 =>
  some x165)
  (some false))) fun g123 =>
  iteB g123
  (some 2)
  (bindO (letO (decide (0 ≤ x31)) fun x226 =>
  bindO (iteB x226
  (letO (p0.Kids.length : Int) fun x232 =>
  letO (decide (x232 ≠ x31)) fun x237 =>
  some x237)
  (some false)) fun j228 =>
  iteB j228
  (some true)
  (letO (decide (x31 < 0)) fun x240 =>
  iteB x240
  (letO (p0.Kids.length : Int) fun x243 =>
  letO (decide (x243 < 2)) fun x248 =>
  some x248)
  (some false))) fun g223 =>
  iteB g223
  (some 2)
  (bindO (bindO (iteB x26
  (bindO (F_ref6_IsName p0.Name) fun x306 =>
  letO (!x306) fun x310 =>
  some x310)
  (some false)) fun j301 =>
  iteB j301
  (some true)
  (iteB x27
  (bindO (F_ref6_IsName p0.Other) fun x315 =>
  letO (!x315) fun x319 =>
  some x319)
  (some false))) fun g298 =>
  iteB g298
  (some 8)
  (bindO (iteB x28
  (bindO (F_ref6_outside p0.Op 1 6) fun x346 =>
  some x346)
  (some false)) fun g341 =>
  iteB g341
  (some 7)
  (bindO (iteB x30
  (bindO (F_ref6_outside p0.Frames 1 4096) fun x375 =>
  some x375)
  (some false)) fun g370 =>
  iteB g370
  (some 9)
  (joinO (fun _ =>
  bindO (letO (decide (p0.Kind = 5)) fun x471 =>
  iteB x471
  (letO (decide (p0.N < 0)) fun x474 =>
  some x474)
  (some false)) fun g468 =>
  iteB g468
  (some 9)
  (some 0)) fun k413 =>
  bindO (letO (decide (p0.Kind = 3)) fun x426 =>
  iteB x426
  (some x426)
  (letO (decide (p0.Kind = 5)) fun x429 =>
  some x429)) fun g422 =>
  iteB g422
  (bindO (F_ref6_outside p0.N (-1125899906842624) 1125899906842624) fun x434 =>
  iteB x434
  (some 9)
  (k413 ()))
  (letO (decide (p0.Kind = 13)) fun x441 =>
  iteB x441
  (bindO (F_ref6_outside p0.N 1 p0.Frames) fun x446 =>
  iteB x446
  (some 9)
  (k413 ()))
  (k413 ()))))))))


def F_ref6_nodesFault_B_L1 (rfG : Cond → Option Int) (p0 : Cond) : Int × Int → Option Int := loopO fun k321 ⟨g316, g317⟩ =>
  bindO (letO (p0.Kids.length : Int) fun x352 =>
  letO (decide (g317 < x352)) fun x357 =>
  iteB x357
  (letO (decide (g316 = 0)) fun x360 =>
  some x360)
  (some false)) fun g349 =>
  iteB g349
  (bindO (at' p0.Kids g317) fun x384 =>
  bindO (rfG x384) fun x400 =>
  letO (IntKind.i64.wrap (g317 + 1)) fun x404 =>
  k321 (x400, x404))
  (some g316)
def F_ref6_nodesFault_B (rfG : Cond → Option Int) (p0 : Cond) : Option Int :=
  bindO (F_ref6_nodeFault p0) fun x9 =>
  bindO (F_ref6_nodesFault_B_L1 rfG p0 (x9, 0)) fun g166 =>
  some g166

def F_ref6_nodesFault_R : Nat → Cond → Option Int
  | 0 => fun _ => none
  | n + 1 => F_ref6_nodesFault_B (F_ref6_nodesFault_R n)
def F_ref6_nodesFault : Cond → Option Int := F_ref6_nodesFault_R FU

def F_ref6_CheckCond (p0 : Cond) : Option Int :=
  bindO (bindO (F_ref6_nodes p0 200) fun x43 =>
  letO (decide (200 < x43)) fun x47 =>
  iteB x47
  (some true)
  (bindO (F_ref6_deeper p0 20) fun x51 =>
  some x51)) fun g39 =>
  iteB g39
  (some 3)
  (bindO (F_ref6_nodesFault p0) fun x59 =>
  some x59)

def F_event_checkMove_1 (p0 : Cond) : Option Int :=
  bindO (letO (decide (p0.Kind = 6)) fun x26 =>
  iteB x26
  (some true)
  (letO (decide (p0.Kind = 7)) fun x29 =>
  some x29)) fun g23 =>
  iteB g23
  (some 2)
  (some 0)


def F_event_each_event_checkMove_1_B_L1 (rfH : Cond → Option Int) (p0 : Cond) (k186 : Unit → Option Int) (x189 : Int) : Int → Option Int := loopO fun k341 g337 =>
  letO (decide (g337 < x189)) fun x345 =>
  iteB x345
  (bindO (at' p0.Kids g337) fun x383 =>
  bindO (rfH x383) fun x404 =>
  letO (decide (x404 ≠ 0)) fun x409 =>
  iteB x409
  (some x404)
  (letO (IntKind.i64.wrap (g337 + 1)) fun x413 =>
  k341 x413))
  (k186 ())
def F_event_each_event_checkMove_1_B (rfH : Cond → Option Int) (p0 : Cond) : Option Int :=
  bindO (F_event_checkMove_1 p0) fun x21 =>
  letO (decide (x21 ≠ 0)) fun x26 =>
  iteB x26
  (some x21)
  (joinO (fun _ =>
  some 0) fun k186 =>
  letO (p0.Kids.length : Int) fun x189 =>
  F_event_each_event_checkMove_1_B_L1 rfH p0 k186 x189 0)

def F_event_each_event_checkMove_1_R : Nat → Cond → Option Int
  | 0 => fun _ => none
  | n + 1 => F_event_each_event_checkMove_1_B (F_event_each_event_checkMove_1_R n)
def F_event_each_event_checkMove_1 : Cond → Option Int := F_event_each_event_checkMove_1_R FU

def F_event_checkMove_L1 (p0 : Rules) (p1 : MoveT) (k141 : Unit → Option Int) (x149 : Int) : Int → Option Int := loopO fun k265 g261 =>
  letO (decide (g261 < x149)) fun x269 =>
  iteB x269
  (bindO (at' ([p1.From, p1.To] : List Str) g261) fun x298 =>
  bindO (F_slices_Contains___string_string_ p0.Phases x298) fun x311 =>
  letO (!x311) fun x315 =>
  iteB x315
  (some 4)
  (letO (IntKind.i64.wrap (g261 + 1)) fun x319 =>
  k265 x319))
  (k141 ())
def F_event_checkMove (p0 : Rules) (p1 : MoveT) : Option Int :=
  joinO (fun _ =>
  bindO (F_event_CheckCond p1.When) fun x335 =>
  letO (decide (x335 ≠ 0)) fun x340 =>
  iteB x340
  (some x335)
  (bindO (F_event_each_event_checkMove_1 p1.When) fun x346 =>
  some x346)) fun k141 =>
  letO ([p1.From, p1.To] : List Str) fun _ =>
  letO ((([p1.From, p1.To] : List Str)).length : Int) fun x149 =>
  F_event_checkMove_L1 p0 p1 k141 x149 0

def F_event_checkRule_1_1 (p0 : Rule) (c0 : Str) : Option Bool :=
  letO (decide ((p0.Name : Str) = c0)) fun x10 =>
  some x10

def F_slices_IndexFunc___api_Rule_api_Rule__event_checkRule_1_1_L1 (p0 : List Rule) (p1c0 : Str) (k130 : Unit → Option Int) (x133 : Int) : Int → Option Int := loopO fun k253 g249 =>
  letO (decide (g249 < x133)) fun x257 =>
  iteB x257
  (bindO (at' p0 g249) fun x288 =>
  bindO (F_event_checkRule_1_1 x288 p1c0) fun x303 =>
  iteB x303
  (some g249)
  (letO (IntKind.i64.wrap (g249 + 1)) fun x309 =>
  k253 x309))
  (k130 ())
def F_slices_IndexFunc___api_Rule_api_Rule__event_checkRule_1_1 (p0 : List Rule) (p1c0 : Str) : Option Int :=
  joinO (fun _ =>
  some (-1)) fun k130 =>
  letO (p0.length : Int) fun x133 =>
  F_slices_IndexFunc___api_Rule_api_Rule__event_checkRule_1_1_L1 p0 p1c0 k130 x133 0

def F_slices_ContainsFunc___api_Rule_api_Rule__event_checkRule_1_1 (p0 : List Rule) (p1c0 : Str) : Option Bool :=
  bindO (F_slices_IndexFunc___api_Rule_api_Rule__event_checkRule_1_1 p0 p1c0) fun x7 =>
  letO (decide (0 ≤ x7)) fun x11 =>
  some x11

def F_event_checkRule_1 (p0 : Str) (c0 : Rules) (c1 : Int) : Option Bool :=
  bindO (sub' c0.Rules 0 c1) fun x16 =>
  bindO (F_slices_ContainsFunc___api_Rule_api_Rule__event_checkRule_1_1 x16 p0) fun x21 =>
  some x21

def F_event_checkRule_2_dfevent_checkRule_1_a0de (p0 : Cond) (c0 : Rules) (c1f1 : Int) : Option Int :=
  bindO (letO (decide (p0.Kind = 6)) fun x74 =>
  bindO (iteB x74
  (bindO (F_slices_Contains___string_string_ c0.Phases p0.Name) fun x81 =>
  letO (!x81) fun x85 =>
  some x85)
  (some false)) fun j76 =>
  iteB j76
  (some true)
  (letO (decide (p0.Kind = 7)) fun x88 =>
  iteB x88
  (bindO (F_event_checkRule_1 p0.Name c0 c1f1) fun x91 =>
  letO (!x91) fun x95 =>
  some x95)
  (some false))) fun g71 =>
  iteB g71
  (some 4)
  (some 0)


def F_event_each_event_checkRule_2_dfevent_checkRule_1_a0de_B_L1 (rfI : Cond → Rules → Int → Option Int) (p0 : Cond) (p1c0 : Rules) (p1c1f1 : Int) (k192 : Unit → Option Int) (x195 : Int) : Int → Option Int := loopO fun k343 g339 =>
  letO (decide (g339 < x195)) fun x347 =>
  iteB x347
  (bindO (at' p0.Kids g339) fun x384 =>
  bindO (rfI x384 p1c0 p1c1f1) fun x404 =>
  letO (decide (x404 ≠ 0)) fun x409 =>
  iteB x409
  (some x404)
  (letO (IntKind.i64.wrap (g339 + 1)) fun x413 =>
  k343 x413))
  (k192 ())
def F_event_each_event_checkRule_2_dfevent_checkRule_1_a0de_B (rfI : Cond → Rules → Int → Option Int) (p0 : Cond) (p1c0 : Rules) (p1c1f1 : Int) : Option Int :=
  bindO (F_event_checkRule_2_dfevent_checkRule_1_a0de p0 p1c0 p1c1f1) fun x31 =>
  letO (decide (x31 ≠ 0)) fun x36 =>
  iteB x36
  (some x31)
  (joinO (fun _ =>
  some 0) fun k192 =>
  letO (p0.Kids.length : Int) fun x195 =>
  F_event_each_event_checkRule_2_dfevent_checkRule_1_a0de_B_L1 rfI p0 p1c0 p1c1f1 k192 x195 0)

def F_event_each_event_checkRule_2_dfevent_checkRule_1_a0de_R : Nat → Cond → Rules → Int → Option Int
  | 0 => fun _ _ _ => none
  | n + 1 => F_event_each_event_checkRule_2_dfevent_checkRule_1_a0de_B (F_event_each_event_checkRule_2_dfevent_checkRule_1_a0de_R n)
def F_event_each_event_checkRule_2_dfevent_checkRule_1_a0de : Cond → Rules → Int → Option Int := F_event_each_event_checkRule_2_dfevent_checkRule_1_a0de_R FU

def F_event_checkRule (p0 : Rules) (p1 : Int) : Option Int :=
  bindO (at' p0.Rules p1) fun x15 =>
  bindO (F_event_isName x15.Name) fun x59 =>
  letO (!x59) fun x63 =>
  iteB x63
  (some 8)
  (bindO (F_event_checkRule_1 x15.Name p0 p1) fun x68 =>
  iteB x68
  (some 5)
  (bindO (F_event_CheckCond x15.When) fun x88 =>
  letO (decide (x88 ≠ 0)) fun x93 =>
  iteB x93
  (some x88)
  (bindO (F_event_each_event_checkRule_2_dfevent_checkRule_1_a0de x15.When p0 p1) fun x98 =>
  some x98)))

def F_event_Check_L1 (p0 : Rules) (k320 : Unit → Option Int) (x323 : Int) : Int → Option Int := loopO fun k539 g535 =>
  letO (decide (g535 < x323)) fun x543 =>
  iteB x543
  (bindO (at' p0.Phases g535) fun x597 =>
  bindO (F_event_isName x597) fun x622 =>
  letO (!x622) fun x626 =>
  iteB x626
  (some 8)
  (bindO (sub' p0.Phases 0 g535) fun x631 =>
  bindO (F_slices_Contains___string_string_ x631 x597) fun x637 =>
  iteB x637
  (some 5)
  (letO (IntKind.i64.wrap (g535 + 1)) fun x643 =>
  k539 x643)))
  (k320 ())
def F_event_Check_L2 (p0 : Rules) (k801 : Unit → Option Int) (x804 : Int) : Int → Option Int := loopO fun k956 g952 =>
  letO (decide (g952 < x804)) fun x960 =>
  iteB x960
  (bindO (at' p0.Moves g952) fun x998 =>
  bindO (F_event_checkMove p0 x998) fun x1019 =>
  letO (decide (x1019 ≠ 0)) fun x1024 =>
  iteB x1024
  (some x1019)
  (letO (IntKind.i64.wrap (g952 + 1)) fun x1028 =>
  k956 x1028))
  (k801 ())
def F_event_Check_L3 (p0 : Rules) (k1110 : Unit → Option Int) (x1113 : Int) : Int → Option Int := loopO fun k1189 g1185 =>
  letO (decide (g1185 < x1113)) fun x1193 =>
  iteB x1193
  (bindO (F_event_checkRule p0 g1185) fun x1214 =>
  letO (decide (x1214 ≠ 0)) fun x1219 =>
  iteB x1219
  (some x1214)
  (letO (IntKind.i64.wrap (g1185 + 1)) fun x1223 =>
  k1189 x1223))
  (k1110 ())
def F_event_Check (p0 : Rules) : Option Int :=
  bindO (letO (p0.Phases.length : Int) fun x72 =>
  letO (decide (20 < x72)) fun x77 =>
  bindO (iteB x77
  (some true)
  (letO (p0.Moves.length : Int) fun x83 =>
  letO (decide (60 < x83)) fun x88 =>
  some x88)) fun j79 =>
  iteB j79
  (some true)
  (letO (p0.Rules.length : Int) fun x91 =>
  letO (decide (60 < x91)) fun x96 =>
  some x96)) fun g69 =>
  iteB g69
  (some 3)
  (joinO (fun _ =>
  joinO (fun _ =>
  joinO (fun _ =>
  some 0) fun k1110 =>
  letO (p0.Rules.length : Int) fun x1113 =>
  F_event_Check_L3 p0 k1110 x1113 0) fun k801 =>
  letO (p0.Moves.length : Int) fun x804 =>
  F_event_Check_L2 p0 k801 x804 0) fun k320 =>
  letO (p0.Phases.length : Int) fun x323 =>
  F_event_Check_L1 p0 k320 x323 0)

def F_ref6_place_L1 (p0 : List Str) (p1 : Str) (k125 : Unit → Option Int) : Int → Option Int := loopO fun k245 g241 =>
  letO (p0.length : Int) fun x259 =>
  letO (decide (g241 < x259)) fun x264 =>
  iteB x264
  (bindO (at' p0 g241) fun x286 =>
  letO (decide ((x286 : Str) = p1)) fun x298 =>
  iteB x298
  (some g241)
  (letO (IntKind.i64.wrap (g241 + 1)) fun x302 =>
  k245 x302))
  (k125 ())
def F_ref6_place (p0 : List Str) (p1 : Str) : Option Int :=
  joinO (fun _ =>
  some (-1)) fun k125 =>
  F_ref6_place_L1 p0 p1 k125 0


def F_ref6_refers_B_L1 (rfJ : Cond → Option Bool) (p0 : Cond) (k178 : Unit → Option Bool) : Int → Option Bool := loopO fun k322 g318 =>
  letO (p0.Kids.length : Int) fun x336 =>
  letO (decide (g318 < x336)) fun x341 =>
  iteB x341
  (bindO (at' p0.Kids g318) fun x369 =>
  bindO (rfJ x369) fun x385 =>
  iteB x385
  (some true)
  (letO (IntKind.i64.wrap (g318 + 1)) fun x391 =>
  k322 x391))
  (k178 ())
def F_ref6_refers_B (rfJ : Cond → Option Bool) (p0 : Cond) : Option Bool :=
  bindO (letO (decide (p0.Kind = 6)) fun x26 =>
  iteB x26
  (some true)
  (letO (decide (p0.Kind = 7)) fun x29 =>
  some x29)) fun g23 =>
  iteB g23
  (some true)
  (joinO (fun _ =>
  some false) fun k178 =>
  F_ref6_refers_B_L1 rfJ p0 k178 0)

def F_ref6_refers_R : Nat → Cond → Option Bool
  | 0 => fun _ => none
  | n + 1 => F_ref6_refers_B (F_ref6_refers_R n)
def F_ref6_refers : Cond → Option Bool := F_ref6_refers_R FU

def F_ref6_RuleOf_L1 (p0 : Rules) (p1 : Str) (k144 : Unit → Option Int) : Int → Option Int := loopO fun k276 g272 =>
  letO (p0.Rules.length : Int) fun x290 =>
  letO (decide (g272 < x290)) fun x295 =>
  iteB x295
  (bindO (at' p0.Rules g272) fun x320 =>
  letO (decide ((x320.Name : Str) = p1)) fun x335 =>
  iteB x335
  (some g272)
  (letO (IntKind.i64.wrap (g272 + 1)) fun x339 =>
  k276 x339))
  (k144 ())
def F_ref6_RuleOf (p0 : Rules) (p1 : Str) : Option Int :=
  joinO (fun _ =>
  some (-1)) fun k144 =>
  F_ref6_RuleOf_L1 p0 p1 k144 0


def F_ref6_unnamed_B_L1 (rfK : Rules → Int → Cond → Option Bool) (p0 : Rules) (p1 : Int) (p2 : Cond) (k254 : Unit → Option Bool) : Int → Option Bool := loopO fun k402 g398 =>
  letO (p2.Kids.length : Int) fun x416 =>
  letO (decide (g398 < x416)) fun x421 =>
  iteB x421
  (bindO (at' p2.Kids g398) fun x452 =>
  bindO (rfK p0 p1 x452) fun x468 =>
  iteB x468
  (some true)
  (letO (IntKind.i64.wrap (g398 + 1)) fun x473 =>
  k402 x473))
  (k254 ())
def F_ref6_unnamed_B (rfK : Rules → Int → Cond → Option Bool) (p0 : Rules) (p1 : Int) (p2 : Cond) : Option Bool :=
  bindO (letO (decide (p2.Kind = 6)) fun x45 =>
  iteB x45
  (bindO (F_ref6_place p0.Phases p2.Name) fun x49 =>
  letO (decide (x49 < 0)) fun x53 =>
  some x53)
  (some false)) fun g42 =>
  iteB g42
  (some true)
  (joinO (fun _ =>
  joinO (fun _ =>
  some false) fun k254 =>
  F_ref6_unnamed_B_L1 rfK p0 p1 p2 k254 0) fun k78 =>
  letO (decide (p2.Kind = 7)) fun x81 =>
  iteB x81
  (bindO (F_ref6_RuleOf p0 p2.Name) fun x86 =>
  bindO (letO (decide (x86 < 0)) fun x98 =>
  iteB x98
  (some true)
  (letO (decide (p1 ≤ x86)) fun x101 =>
  some x101)) fun g95 =>
  iteB g95
  (some true)
  (k78 ()))
  (k78 ()))

def F_ref6_unnamed_R : Nat → Rules → Int → Cond → Option Bool
  | 0 => fun _ _ _ => none
  | n + 1 => F_ref6_unnamed_B (F_ref6_unnamed_R n)
def F_ref6_unnamed : Rules → Int → Cond → Option Bool := F_ref6_unnamed_R FU

def F_ref6_Check_L1 (p0 : Rules) (k445 : Unit → Option Int) : Int → Option Int := loopO fun k789 g785 =>
  letO (p0.Phases.length : Int) fun x803 =>
  letO (decide (g785 < x803)) fun x808 =>
  iteB x808
  (bindO (at' p0.Phases g785) fun x909 =>
  bindO (F_ref6_IsName x909) fun x922 =>
  letO (!x922) fun x926 =>
  iteB x926
  (some 8)
  (bindO (sub' p0.Phases 0 g785) fun x933 =>
  bindO (at' p0.Phases g785) fun x938 =>
  bindO (F_ref6_place x933 x938) fun x951 =>
  letO (decide (0 ≤ x951)) fun x953 =>
  iteB x953
  (some 5)
  (letO (IntKind.i64.wrap (g785 + 1)) fun x958 =>
  k789 x958)))
  (k445 ())
def F_ref6_Check_L2 (p0 : Rules) (k1381 : Unit → Option Int) : Int → Option Int := loopO fun k1801 g1797 =>
  letO (p0.Moves.length : Int) fun x1815 =>
  letO (decide (g1797 < x1815)) fun x1820 =>
  iteB x1820
  (bindO (at' p0.Moves g1797) fun x1917 =>
  bindO (bindO (F_ref6_place p0.Phases x1917.From) fun x1976 =>
  letO (decide (x1976 < 0)) fun x1980 =>
  iteB x1980
  (some true)
  (bindO (F_ref6_place p0.Phases x1917.To) fun x1984 =>
  letO (decide (x1984 < 0)) fun x1988 =>
  some x1988)) fun g1972 =>
  iteB g1972
  (some 4)
  (bindO (F_ref6_CheckCond x1917.When) fun x2006 =>
  letO (decide (x2006 ≠ 0)) fun x2011 =>
  iteB x2011
  (some x2006)
  (bindO (F_ref6_refers x1917.When) fun x2017 =>
  iteB x2017
  (some 2)
  (letO (IntKind.i64.wrap (g1797 + 1)) fun x2023 =>
  k1801 x2023))))
  (k1381 ())
def F_ref6_Check_L3 (p0 : Rules) (k2810 : Unit → Option Int) : Int → Option Int := loopO fun k3594 g3590 =>
  letO (p0.Rules.length : Int) fun x3608 =>
  letO (decide (g3590 < x3608)) fun x3613 =>
  iteB x3613
  (bindO (at' p0.Rules g3590) fun x3827 =>
  bindO (F_ref6_IsName x3827.Name) fun x3843 =>
  letO (!x3843) fun x3847 =>
  iteB x3847
  (some 8)
  (bindO (at' p0.Rules g3590) fun x3882 =>
  bindO (F_ref6_RuleOf p0 x3882.Name) fun x3898 =>
  letO (decide (x3898 < g3590)) fun x3902 =>
  iteB x3902
  (some 5)
  (bindO (at' p0.Rules g3590) fun x3934 =>
  bindO (F_ref6_CheckCond x3934.When) fun x3950 =>
  letO (decide (x3950 ≠ 0)) fun x3955 =>
  iteB x3955
  (some x3950)
  (bindO (at' p0.Rules g3590) fun x3962 =>
  bindO (F_ref6_unnamed p0 g3590 x3962.When) fun x3978 =>
  iteB x3978
  (some 4)
  (letO (IntKind.i64.wrap (g3590 + 1)) fun x3983 =>
  k3594 x3983)))))
  (k2810 ())
def F_ref6_Check (p0 : Rules) : Option Int :=
  bindO (letO (p0.Phases.length : Int) fun x72 =>
  letO (decide (20 < x72)) fun x77 =>
  bindO (iteB x77
  (some true)
  (letO (p0.Moves.length : Int) fun x83 =>
  letO (decide (60 < x83)) fun x88 =>
  some x88)) fun j79 =>
  iteB j79
  (some true)
  (letO (p0.Rules.length : Int) fun x91 =>
  letO (decide (60 < x91)) fun x96 =>
  some x96)) fun g69 =>
  iteB g69
  (some 3)
  (joinO (fun _ =>
  joinO (fun _ =>
  joinO (fun _ =>
  some 0) fun k2810 =>
  F_ref6_Check_L3 p0 k2810 0) fun k1381 =>
  F_ref6_Check_L2 p0 k1381 0) fun k445 =>
  F_ref6_Check_L1 p0 k445 0)

def F_event_namesIn_1 (p0 : Cond) (c0 : List Str) : Option (Int × (List Str)) :=
  bindO (bindO (letO (decide (p0.Kind = 3)) fun x62 =>
  iteB x62
  (some x62)
  (letO (decide (p0.Kind = 5)) fun x65 =>
  some x65)) fun g58 =>
  iteB g58
  (letO ([p0.Name] : List Str) fun _ =>
  bindO (app' 16 c0 ([p0.Name] : List Str)) fun x73 =>
  some x73)
  (letO (decide (p0.Kind = 4)) fun x79 =>
  iteB x79
  (letO ([p0.Name, p0.Other] : List Str) fun _ =>
  bindO (app' 16 c0 ([p0.Name, p0.Other] : List Str)) fun x87 =>
  some x87)
  (some c0))) fun g47 =>
  some (0, g47)


def F_event_each_event_namesIn_1_B_L1 (rfL : Cond → (List Str) → Option (Int × (List Str))) (p0 : Cond) (k209 : (List Str) → Option (Int × (List Str))) (x212 : Int) : Int × (List Str) → Option (Int × (List Str)) := loopO fun k378 ⟨g371, g373⟩ =>
  letO (decide (g371 < x212)) fun x382 =>
  iteB x382
  (bindO (at' p0.Kids g371) fun x422 =>
  bindO (rfL x422 g373) fun ⟨x442, x443⟩ =>
  letO (decide (x442 ≠ 0)) fun x450 =>
  iteB x450
  (some (x442, x443))
  (letO (IntKind.i64.wrap (g371 + 1)) fun x454 =>
  k378 (x454, x443)))
  (k209 g373)
def F_event_each_event_namesIn_1_B (rfL : Cond → (List Str) → Option (Int × (List Str))) (p0 : Cond) (p1c0 : List Str) : Option (Int × (List Str)) :=
  bindO (F_event_namesIn_1 p0 p1c0) fun ⟨x27, x28⟩ =>
  letO (decide (x27 ≠ 0)) fun x35 =>
  iteB x35
  (some (x27, x28))
  (joinO (fun g206 =>
  some (0, g206)) fun k209 =>
  letO (p0.Kids.length : Int) fun x212 =>
  F_event_each_event_namesIn_1_B_L1 rfL p0 k209 x212 (0, x28))

def F_event_each_event_namesIn_1_R : Nat → Cond → (List Str) → Option (Int × (List Str))
  | 0 => fun _ _ => none
  | n + 1 => F_event_each_event_namesIn_1_B (F_event_each_event_namesIn_1_R n)
def F_event_each_event_namesIn_1 : Cond → (List Str) → Option (Int × (List Str)) := F_event_each_event_namesIn_1_R FU

def F_event_namesIn (p0 : Cond) : Option (List Str) :=
  bindO (F_event_each_event_namesIn_1 p0 []) fun ⟨x14, x15⟩ =>
  some x15

def F_event_tracksIn_L1 (p0 : Rules) (x176 : Int) : (List Str) × Int → Option (List Str) := loopO fun k333 ⟨g326, g328⟩ =>
  letO (decide (g328 < x176)) fun x337 =>
  iteB x337
  (bindO (at' p0.Moves g328) fun x374 =>
  bindO (F_event_namesIn x374.When) fun x393 =>
  bindO (app' 16 g326 x393) fun x399 =>
  letO (IntKind.i64.wrap (g328 + 1)) fun x403 =>
  k333 (x399, x403))
  (some g326)
def F_event_tracksIn_L2 (p0 : Rules) (x563 : Int) : (List Str) × Int → Option (List Str) := loopO fun k715 ⟨g709, g711⟩ =>
  letO (decide (g711 < x563)) fun x719 =>
  iteB x719
  (bindO (at' p0.Rules g711) fun x756 =>
  bindO (F_event_namesIn x756.When) fun x775 =>
  bindO (app' 16 g709 x775) fun x781 =>
  letO (IntKind.i64.wrap (g711 + 1)) fun x785 =>
  k715 (x781, x785))
  (some g709)
def F_event_tracksIn (p0 : Rules) : Option (List Str) :=
  bindO (letO (p0.Moves.length : Int) fun x176 =>
  F_event_tracksIn_L1 p0 x176 ([], 0)) fun g171 =>
  bindO (letO (p0.Rules.length : Int) fun x563 =>
  F_event_tracksIn_L2 p0 x563 (g171, 0)) fun g558 =>
  bindO (X_SortStr g558) fun x788 =>
  bindO (X_CompactStr x788) fun x793 =>
  some x793

def F_event_Tracks (p0 : Rules) : Option ((List Str) × Int) :=
  bindO (F_event_Check p0) fun x26 =>
  letO (decide (x26 ≠ 0)) fun x31 =>
  iteB x31
  (some ([], x26))
  (bindO (F_event_tracksIn p0) fun x37 =>
  some (x37, 0))

def F_internal_strconv_AppendInt (p0 : List Int) (p1 : Int) (p2 : Int) : Option (List Int) :=
  letO (IntKind.u64.wrap p1) fun x7 =>
  bindO (letO (decide (p1 < 0)) fun x32 =>
  iteB x32
  (letO ([45] : List Int) fun _ =>
  bindO (app' 1 p0 ([45] : List Int)) fun x41 =>
  letO (IntKind.u64.wrap (-x7)) fun x45 =>
  some (x41, x45))
  (some (p0, x7))) fun ⟨g25, g27⟩ =>
  bindO (X_AppendUint g25 g27 p2) fun x48 =>
  some x48

def F_strconv_AppendInt (p0 : List Int) (p1 : Int) (p2 : Int) : Option (List Int) :=
  bindO (F_internal_strconv_AppendInt p0 p1 p2) fun x7 =>
  some x7

def F_ref0_Ink_Int (p0 : Orangeboxref0Ink) (p1 : Int) : Option Orangeboxref0Ink :=
  bindO (F_strconv_AppendInt p0.out p1 10) fun x8 =>
  letO ([32] : List Int) fun _ =>
  bindO (app' 1 x8 ([32] : List Int)) fun x20 =>
  some (Orangeboxref0Ink.mk x20)

def F_ref0_Ink_Text (p0 : Orangeboxref0Ink) (p1 : Str) : Option Orangeboxref0Ink :=
  letO (p1.length : Int) fun x8 =>
  bindO (F_ref0_Ink_Int p0 x8) fun x10 =>
  bindO (app' 1 x10.out (nums p1)) fun x16 =>
  some (Orangeboxref0Ink.mk x16)

def F_ref0_Ink_Texts_L1 (p1 : List Str) : Int × (List Int) → Option Orangeboxref0Ink := loopO fun k149 ⟨g142, g144⟩ =>
  letO (p1.length : Int) fun x163 =>
  letO (decide (g142 < x163)) fun x168 =>
  iteB x168
  (bindO (at' p1 g142) fun x190 =>
  bindO (F_ref0_Ink_Text (Orangeboxref0Ink.mk g144) x190) fun x202 =>
  letO (IntKind.i64.wrap (g142 + 1)) fun x208 =>
  k149 (x208, x202.out))
  (some (Orangeboxref0Ink.mk g144))
def F_ref0_Ink_Texts (p0 : Orangeboxref0Ink) (p1 : List Str) : Option Orangeboxref0Ink :=
  letO (p1.length : Int) fun x10 =>
  bindO (F_ref0_Ink_Int p0 x10) fun x15 =>
  F_ref0_Ink_Texts_L1 p1 (0, x15.out)

def F_ref0_Ink_Errno (p0 : Orangeboxref0Ink) (p1 : Int) : Option Orangeboxref0Ink :=
  bindO (F_ref0_Ink_Int p0 p1) fun x7 =>
  some x7

def F_ref0_Ink_Told (p0 : Option Orangeboxref0Ink) : Option Str :=
  bindO p0 fun x5 =>
  letO (str' x5.out) fun x19 =>
  some x19

def F_law6_texts (p0 : List Str) (p1 : Int) : Option Str :=
  bindO (F_ref0_Ink_Texts (Orangeboxref0Ink.mk []) p0) fun x11 =>
  bindO (F_ref0_Ink_Errno x11 p1) fun x18 =>
  bindO (F_ref0_Ink_Told (some x18)) fun x27 =>
  some x27

def F_ref6_PutText_L1 (p0 : List Str) (p1 : Str) : Int → Option Int := loopO fun k241 g237 =>
  bindO (letO (p0.length : Int) fun x296 =>
  letO (decide (g237 < x296)) fun x301 =>
  iteB x301
  (bindO (at' p0 g237) fun x304 =>
  letO (slt x304 p1) fun x316 =>
  some x316)
  (some false)) fun g293 =>
  iteB g293
  (letO (IntKind.i64.wrap (g237 + 1)) fun x319 =>
  k241 x319)
  (some g237)
def F_ref6_PutText (p0 : List Str) (p1 : Str) : Option (List Str) :=
  bindO (F_ref6_PutText_L1 p0 p1 0) fun g123 =>
  bindO (letO (p0.length : Int) fun x374 =>
  letO (decide (g123 < x374)) fun x379 =>
  iteB x379
  (bindO (at' p0 g123) fun x382 =>
  letO (decide ((x382 : Str) = p1)) fun x394 =>
  some x394)
  (some false)) fun g371 =>
  iteB g371
  (some p0)
  (bindO (sub' p0 0 g123) fun x399 =>
  bindO (app' 16 ([] : List Str) x399) fun x405 =>
  bindO (sub' p0 g123 (p0.length : Int)) fun x412 =>
  letO ([p1] : List Str) fun _ =>
  bindO (app' 16 x405 ([p1] : List Str)) fun x422 =>
  bindO (app' 16 x422 x412) fun x426 =>
  some x426)


def F_ref6_named_B_L1 (rfM : (List Str) → Cond → Option (List Str)) (p1 : Cond) : (List Str) × Int → Option (List Str) := loopO fun k377 ⟨g371, g373⟩ =>
  letO (p1.Kids.length : Int) fun x391 =>
  letO (decide (g373 < x391)) fun x396 =>
  iteB x396
  (bindO (at' p1.Kids g373) fun x421 =>
  bindO (rfM g371 x421) fun x436 =>
  letO (IntKind.i64.wrap (g373 + 1)) fun x442 =>
  k377 (x436, x442))
  (some g371)
def F_ref6_named_B (rfM : (List Str) → Cond → Option (List Str)) (p0 : List Str) (p1 : Cond) : Option (List Str) :=
  bindO (bindO (letO (decide (p1.Kind = 3)) fun x50 =>
  bindO (iteB x50
  (some true)
  (letO (decide (p1.Kind = 4)) fun x56 =>
  some x56)) fun j52 =>
  iteB j52
  (some true)
  (letO (decide (p1.Kind = 5)) fun x59 =>
  some x59)) fun g47 =>
  iteB g47
  (bindO (F_ref6_PutText p0 p1.Name) fun x62 =>
  some x62)
  (some p0)) fun g32 =>
  bindO (letO (decide (p1.Kind = 4)) fun x84 =>
  iteB x84
  (bindO (F_ref6_PutText g32 p1.Other) fun x87 =>
  some x87)
  (some g32)) fun g79 =>
  bindO (F_ref6_named_B_L1 rfM p1 (g79, 0)) fun g233 =>
  some g233

def F_ref6_named_R : Nat → (List Str) → Cond → Option (List Str)
  | 0 => fun _ _ => none
  | n + 1 => F_ref6_named_B (F_ref6_named_R n)
def F_ref6_named : (List Str) → Cond → Option (List Str) := F_ref6_named_R FU

def F_ref6_TracksOf_L1 (p0 : Rules) : (List Str) × Int → Option (List Str) := loopO fun k303 ⟨g296, g298⟩ =>
  letO (p0.Moves.length : Int) fun x317 =>
  letO (decide (g298 < x317)) fun x322 =>
  iteB x322
  (bindO (at' p0.Moves g298) fun x347 =>
  bindO (F_ref6_named g296 x347.When) fun x362 =>
  letO (IntKind.i64.wrap (g298 + 1)) fun x368 =>
  k303 (x362, x368))
  (some g296)
def F_ref6_TracksOf_L2 (p0 : Rules) : (List Str) × Int → Option (List Str) := loopO fun k654 ⟨g648, g650⟩ =>
  letO (p0.Rules.length : Int) fun x668 =>
  letO (decide (g650 < x668)) fun x673 =>
  iteB x673
  (bindO (at' p0.Rules g650) fun x698 =>
  bindO (F_ref6_named g648 x698.When) fun x713 =>
  letO (IntKind.i64.wrap (g650 + 1)) fun x719 =>
  k654 (x713, x719))
  (some g648)
def F_ref6_TracksOf (p0 : Rules) : Option (List Str) :=
  bindO (F_ref6_TracksOf_L1 p0 ([], 0)) fun g156 =>
  bindO (F_ref6_TracksOf_L2 p0 (g156, 0)) fun g510 =>
  some g510

def F_ref6_Tracks (p0 : Rules) : Option ((List Str) × Int) :=
  bindO (F_ref6_Check p0) fun x26 =>
  letO (decide (x26 ≠ 0)) fun x31 =>
  iteB x31
  (some ([], x26))
  (bindO (F_ref6_TracksOf p0) fun x37 =>
  some (x37, 0))


def F_event_depth_B_L1 (rfN : Cond → (List (Str × Int)) → Option Int) (p0 : Cond) (p1 : List (Str × Int)) (k200 : Int → Option Int) (x203 : Int) : Int × Int → Option Int := loopO fun k389 ⟨g384, g385⟩ =>
  letO (decide (g385 < x203)) fun x393 =>
  iteB x393
  (bindO (at' p0.Kids g385) fun x439 =>
  bindO (rfN x439 p1) fun x460 =>
  letO (decide (x460 < 0)) fun x471 =>
  iteB x471
  (some (-1))
  (letO (max g384 x460 : Int) fun x475 =>
  letO (IntKind.i64.wrap (g385 + 1)) fun x477 =>
  k389 (x475, x477)))
  (k200 g384)
def F_event_depth_B (rfN : Cond → (List (Str × Int)) → Option Int) (p0 : Cond) (p1 : List (Str × Int)) : Option Int :=
  joinO (fun g198 =>
  letO (decide (p0.Kind = 5)) fun x547 =>
  iteB x547
  (some p0.Frames)
  (bindO (letO (decide (p0.Kind = 6)) fun x561 =>
  iteB x561
  (some x561)
  (letO (decide (p0.Kind = 14)) fun x564 =>
  some x564)) fun g557 =>
  iteB g557
  (some (-1))
  (letO (decide (p0.Kind = 7)) fun x569 =>
  iteB x569
  (letO (mget p1 p0.Name 0) fun x573 =>
  some x573)
  (bindO (letO (decide (p0.Kind = 8)) fun x589 =>
  iteB x589
  (some x589)
  (letO (decide (p0.Kind = 9)) fun x593 =>
  iteB x593
  (some x593)
  (letO (decide (p0.Kind = 10)) fun x596 =>
  some x596))) fun g585 =>
  iteB g585
  (some g198)
  (bindO (letO (decide (p0.Kind = 11)) fun x614 =>
  iteB x614
  (some x614)
  (letO (decide (p0.Kind = 12)) fun x618 =>
  iteB x618
  (some x618)
  (letO (decide (p0.Kind = 13)) fun x621 =>
  some x621))) fun g610 =>
  iteB g610
  (letO (IntKind.i64.wrap (g198 + p0.Frames)) fun x625 =>
  letO (IntKind.i64.wrap (x625 - 1)) fun x627 =>
  some x627)
  (letO (decide (p0.Kind = 15)) fun x630 =>
  iteB x630
  (letO (IntKind.i64.wrap (g198 + 1)) fun x634 =>
  some x634)
  (some 1))))))) fun k200 =>
  letO (p0.Kids.length : Int) fun x203 =>
  F_event_depth_B_L1 rfN p0 p1 k200 x203 (0, 0)

def F_event_depth_R : Nat → Cond → (List (Str × Int)) → Option Int
  | 0 => fun _ _ => none
  | n + 1 => F_event_depth_B (F_event_depth_R n)
def F_event_depth : Cond → (List (Str × Int)) → Option Int := F_event_depth_R FU

def F_event_Depths_L1 (p0 : Rules) (x249 : Int) : (List Int) × Int × (List (Str × Int)) → Option (List Int) := loopO fun k452 ⟨g444, g446, g447⟩ =>
  letO (decide (g446 < x249)) fun x456 =>
  iteB x456
  (bindO (at' p0.Rules g446) fun x504 =>
  bindO (F_event_depth x504.When g447) fun x527 =>
  letO (mset g447 x504.Name x527) fun x529 =>
  letO (mget x529 x504.Name 0) fun x533 =>
  letO ([x533] : List Int) fun _ =>
  bindO (app' 8 g444 ([x533] : List Int)) fun x540 =>
  letO (IntKind.i64.wrap (g446 + 1)) fun x544 =>
  k452 (x540, x544, x529))
  (some g444)
def F_event_Depths (p0 : Rules) : Option ((List Int) × Int) :=
  bindO (F_event_Check p0) fun x26 =>
  letO (decide (x26 ≠ 0)) fun x31 =>
  iteB x31
  (some ([], x26))
  (bindO (letO (p0.Rules.length : Int) fun x249 =>
  F_event_Depths_L1 p0 x249 ([], 0, ([] : List (Str × Int)))) fun g244 =>
  some (g244, 0))


def F_ref6_depth_B_L1 (rfO : Rules → Cond → (List Int) → Option Int) (p0 : Rules) (p1 : Cond) (p2 : List Int) (k320 : Int → Option Int) : Int × Int → Option Int := loopO fun k514 ⟨g509, g510⟩ =>
  letO (p1.Kids.length : Int) fun x528 =>
  letO (decide (g510 < x528)) fun x533 =>
  iteB x533
  (bindO (at' p1.Kids g510) fun x575 =>
  bindO (rfO p0 x575 p2) fun x591 =>
  letO (decide (x591 < 0)) fun x601 =>
  iteB x601
  (some (-1))
  (letO (max g509 x591 : Int) fun x605 =>
  letO (IntKind.i64.wrap (g510 + 1)) fun x607 =>
  k514 (x605, x607)))
  (k320 g509)
def F_ref6_depth_B (rfO : Rules → Cond → (List Int) → Option Int) (p0 : Rules) (p1 : Cond) (p2 : List Int) : Option Int :=
  letO (decide (p1.Kind = 5)) fun x60 =>
  iteB x60
  (some p1.Frames)
  (bindO (letO (decide (p1.Kind = 6)) fun x74 =>
  iteB x74
  (some x74)
  (letO (decide (p1.Kind = 14)) fun x77 =>
  some x77)) fun g70 =>
  iteB g70
  (some (-1))
  (letO (decide (p1.Kind = 7)) fun x82 =>
  iteB x82
  (bindO (F_ref6_RuleOf p0 p1.Name) fun x87 =>
  bindO (at' p2 x87) fun x91 =>
  some x91)
  (letO (p1.Kids.length : Int) fun x115 =>
  letO (decide (x115 = 0)) fun x120 =>
  iteB x120
  (some 1)
  (joinO (fun g318 =>
  bindO (letO (decide (p1.Kind = 11)) fun x652 =>
  iteB x652
  (some x652)
  (letO (decide (p1.Kind = 12)) fun x656 =>
  iteB x656
  (some x656)
  (letO (decide (p1.Kind = 13)) fun x659 =>
  some x659))) fun g648 =>
  iteB g648
  (letO (IntKind.i64.wrap (g318 + p1.Frames)) fun x663 =>
  letO (IntKind.i64.wrap (x663 - 1)) fun x665 =>
  some x665)
  (letO (decide (p1.Kind = 15)) fun x668 =>
  iteB x668
  (letO (IntKind.i64.wrap (g318 + 1)) fun x672 =>
  some x672)
  (some g318))) fun k320 =>
  F_ref6_depth_B_L1 rfO p0 p1 p2 k320 (0, 0)))))

def F_ref6_depth_R : Nat → Rules → Cond → (List Int) → Option Int
  | 0 => fun _ _ _ => none
  | n + 1 => F_ref6_depth_B (F_ref6_depth_R n)
def F_ref6_depth : Rules → Cond → (List Int) → Option Int := F_ref6_depth_R FU

def F_ref6_Depths_L1 (p0 : Rules) : (List Int) × Int → Option (List Int) := loopO fun k403 ⟨g396, g398⟩ =>
  letO (p0.Rules.length : Int) fun x417 =>
  letO (decide (g398 < x417)) fun x422 =>
  iteB x422
  (bindO (at' p0.Rules g398) fun x458 =>
  bindO (F_ref6_depth p0 x458.When g396) fun x474 =>
  letO ([x474] : List Int) fun _ =>
  bindO (app' 8 g396 ([x474] : List Int)) fun x481 =>
  letO (IntKind.i64.wrap (g398 + 1)) fun x486 =>
  k403 (x481, x486))
  (some g396)
def F_ref6_Depths (p0 : Rules) : Option ((List Int) × Int) :=
  bindO (F_ref6_Check p0) fun x26 =>
  letO (decide (x26 ≠ 0)) fun x31 =>
  iteB x31
  (some ([], x26))
  (bindO (F_ref6_Depths_L1 p0 ([], 0)) fun g218 =>
  some (g218, 0))

def F_ref0_Ink_Ints_L1 (p1 : List Int) : Int × (List Int) → Option Orangeboxref0Ink := loopO fun k149 ⟨g142, g144⟩ =>
  letO (p1.length : Int) fun x163 =>
  letO (decide (g142 < x163)) fun x168 =>
  iteB x168
  (bindO (at' p1 g142) fun x190 =>
  bindO (F_ref0_Ink_Int (Orangeboxref0Ink.mk g144) x190) fun x202 =>
  letO (IntKind.i64.wrap (g142 + 1)) fun x208 =>
  k149 (x208, x202.out))
  (some (Orangeboxref0Ink.mk g144))
def F_ref0_Ink_Ints (p0 : Orangeboxref0Ink) (p1 : List Int) : Option Orangeboxref0Ink :=
  letO (p1.length : Int) fun x10 =>
  bindO (F_ref0_Ink_Int p0 x10) fun x15 =>
  F_ref0_Ink_Ints_L1 p1 (0, x15.out)

def F_ref0_Ink_Lists_L1 (p1 : List (List Int)) : Int × (List Int) → Option Orangeboxref0Ink := loopO fun k161 ⟨g154, g156⟩ =>
  letO (p1.length : Int) fun x175 =>
  letO (decide (g154 < x175)) fun x180 =>
  iteB x180
  (bindO (at' p1 g154) fun x205 =>
  bindO (F_ref0_Ink_Ints (Orangeboxref0Ink.mk g156) x205) fun x220 =>
  letO (IntKind.i64.wrap (g154 + 1)) fun x226 =>
  k161 (x226, x220.out))
  (some (Orangeboxref0Ink.mk g156))
def F_ref0_Ink_Lists (p0 : Orangeboxref0Ink) (p1 : List (List Int)) : Option Orangeboxref0Ink :=
  letO (p1.length : Int) fun x10 =>
  bindO (F_ref0_Ink_Int p0 x10) fun x15 =>
  F_ref0_Ink_Lists_L1 p1 (0, x15.out)

def F_law6_lists (p0 : List (List Int)) (p1 : Int) : Option Str :=
  bindO (F_ref0_Ink_Lists (Orangeboxref0Ink.mk []) p0) fun x11 =>
  bindO (F_ref0_Ink_Errno x11 p1) fun x18 =>
  bindO (F_ref0_Ink_Told (some x18)) fun x27 =>
  some x27

def F_event_Read (p0 : Str) : Option (Rules × Int × Int) :=
  letO (p0.length : Int) fun x18 =>
  letO (decide (200000 < x18)) fun x20 =>
  iteB x20
  none
  (bindO (F_caught (EventReader.mk p0 0 (EventToken.mk 0 0 0 []) (Rules.mk [] [] []))) fun ⟨x55, x56⟩ =>
  letO (decide (x55.e ≠ 0)) fun x71 =>
  iteB x71
  none
  (bindO (F_event_Check x56.r) fun x87 =>
  letO (decide (x87 ≠ 0)) fun x92 =>
  iteB x92
  none
  (some (x56.r, 0, 0))))


def F_event_joined_L1 (rfP : Cond → Int → Option Str) (p0 : List Cond) (p2 : Int) (x185 : Int) : (List Str) × Int → Option (List Str) := loopO fun k358 ⟨g351, g353⟩ =>
  letO (decide (g353 < x185)) fun x362 =>
  iteB x362
  (bindO (at' p0 g353) fun x403 =>
  bindO (rfP x403 p2) fun x423 =>
  letO ([x423] : List Str) fun _ =>
  bindO (app' 16 g351 ([x423] : List Str)) fun x432 =>
  letO (IntKind.i64.wrap (g353 + 1)) fun x436 =>
  k358 (x432, x436))
  (some g351)
def F_event_joined (rfP : Cond → Int → Option Str) (p0 : List Cond) (p1 : Str) (p2 : Int) : Option Str :=
  bindO (letO (p0.length : Int) fun x185 =>
  F_event_joined_L1 rfP p0 p2 x185 ([], 0)) fun g180 =>
  bindO (cat' [32] p1) fun x439 =>
  bindO (cat' x439 [32]) fun x441 =>
  bindO (X_Join g180 x441) fun x444 =>
  some x444

def F_event_condText_1 (rfP : Cond → Int → Option Str) (c0 : Cond) : Option Str :=
  bindO (F_event_joined rfP c0.Kids [] 3) fun x9 =>
  some x9

def F_event_condText_B (rfP : Cond → Int → Option Str) (p0 : Cond) (p1 : Int) : Option Str :=
  letO (decide (p0.Kind = 9)) fun x114 =>
  iteB x114
  none
  (letO (decide (p0.Kind = 10)) fun x118 =>
  iteB x118
  (bindO (F_event_joined rfP p0.Kids [111, 114] 1) fun x138 =>
  letO (decide (p1 ≠ 0)) fun x143 =>
  iteB x143
  (bindO (cat' [40] x138) fun x146 =>
  bindO (cat' x146 [41]) fun x148 =>
  some x148)
  none)
  (letO (decide (p0.Kind = 1)) fun x152 =>
  iteB x152
  (some [116, 114, 117, 101])
  (letO (decide (p0.Kind = 2)) fun x157 =>
  iteB x157
  none
  (letO (decide (p0.Kind = 3)) fun x161 =>
  iteB x161
  (bindO (cat' p0.Name [32]) fun x169 =>
  bindO (at' zU.l p0.Op) fun x171 =>
  bindO (cat' x169 x171) fun x173 =>
  bindO (cat' x173 [32]) fun x175 =>
  bindO (X_Itoa p0.N) fun x178 =>
  bindO (cat' x175 x178) fun x182 =>
  some x182)
  (letO (decide (p0.Kind = 4)) fun x186 =>
  iteB x186
  none
  (letO (decide (p0.Kind = 5)) fun x190 =>
  iteB x190
  none
  (letO (decide (p0.Kind = 6)) fun x194 =>
  iteB x194
  none
  (letO (decide (p0.Kind = 7)) fun x198 =>
  iteB x198
  none
  (letO (decide (p0.Kind = 8)) fun x202 =>
  iteB x202
  (bindO (F_event_condText_1 rfP p0) fun x206 =>
  bindO (cat' [110, 111, 116, 32] x206) fun x210 =>
  some x210)
  none)))))))))

def F_event_condText_R : Nat → Cond → Int → Option Str
  | 0 => fun _ _ => none
  | n + 1 => F_event_condText_B (F_event_condText_R n)
def F_event_condText : Cond → Int → Option Str := F_event_condText_R FU

def F_strings_Builder_WriteString (p0 : List Int) (p1 : Str) : Option (Int × Unit × (List Int)) :=
  bindO (X_bcheck p0) fun x11 =>
  bindO (app' 1 x11 (nums p1)) fun x20 =>
  letO (p1.length : Int) fun x26 =>
  some (x26, (), x20)

def F_strings_Builder_Len (p0 : List Int) : Option (Int × (List Int)) :=
  letO (p0.length : Int) fun x11 =>
  some (x11, p0)

def F_event_Print_L1 (x65 : Int) : Unit → Option Unit := loopO fun k85 _ =>
  letO (decide (0 < x65)) fun x89 =>
  iteB x89
  none
  (some ())
def F_event_Print_L2 (x122 : Int) : Unit → Option Unit := loopO fun k142 _ =>
  letO (decide (0 < x122)) fun x146 =>
  iteB x146
  none
  (some ())
def F_event_Print_L3 (p0 : Rules) (x377 : Int) : Int × (List Int) → Option (List Int) := loopO fun k597 ⟨g586, g590⟩ =>
  letO (decide (g586 < x377)) fun x601 =>
  iteB x601
  (bindO (at' p0.Rules g586) fun x652 =>
  bindO (cat' [114, 117, 108, 101, 32] x652.Name) fun x673 =>
  bindO (cat' x673 [32, 105, 102, 32]) fun x675 =>
  bindO (F_event_condText x652.When 0) fun x678 =>
  bindO (cat' x675 x678) fun x680 =>
  bindO (cat' x680 [10]) fun x682 =>
  bindO (F_strings_Builder_WriteString g590 x682) fun ⟨x684, x685, x686⟩ =>
  letO (IntKind.i64.wrap (g586 + 1)) fun x695 =>
  k597 (x695, x686))
  (some g590)
def F_event_Print (p0 : Rules) : Option (Str × Int) :=
  bindO (F_event_Check p0) fun x25 =>
  letO (decide (x25 ≠ 0)) fun x30 =>
  iteB x30
  none
  (bindO (letO (p0.Phases.length : Int) fun x65 =>
  F_event_Print_L1 x65 ()) fun _ =>
  bindO (letO (p0.Moves.length : Int) fun x122 =>
  F_event_Print_L2 x122 ()) fun _ =>
  bindO (letO (p0.Rules.length : Int) fun x377 =>
  F_event_Print_L3 p0 x377 (0, [])) fun g372 =>
  bindO (F_strings_Builder_Len g372) fun ⟨x712, x713⟩ =>
  letO (decide (200000 < x712)) fun x721 =>
  iteB x721
  none
  (bindO (X_bstring x713) fun x725 =>
  some (x725, 0)))

def F_law6_reads : Option Bool :=
  bindO (F_event_Read [114, 117, 108, 101, 32, 97, 32, 105, 102, 32, 110, 111, 116, 32, 32, 40, 120, 32, 62, 49, 32, 111, 114, 32, 116, 114, 117, 101, 41]) fun ⟨x5, x6, x7⟩ =>
  bindO (F_event_Print x5) fun ⟨x23, x24⟩ =>
  letO (decide (x7 = 0)) fun x40 =>
  bindO (iteB x40
  (letO (decide (x24 = 0)) fun x46 =>
  some x46)
  none) fun j42 =>
  iteB j42
  (letO (decide ((x23 : Str) = [114, 117, 108, 101, 32, 97, 32, 105, 102, 32, 110, 111, 116, 32, 40, 120, 32, 62, 32, 49, 32, 111, 114, 32, 116, 114, 117, 101, 41, 10])) fun x49 =>
  some x49)
  none

def F_law6_EventCheckMatchesSpec (p0 : Cond) (p1 : Rules) : Option Bool :=
  bindO (bindO (F_event_CheckCond p0) fun x121 =>
  bindO (F_ref6_CheckCond p0) fun x124 =>
  letO (decide (x121 ≠ x124)) fun x126 =>
  iteB x126
  (some true)
  (bindO (F_event_Check p1) fun x131 =>
  bindO (F_ref6_Check p1) fun x134 =>
  letO (decide (x131 ≠ x134)) fun x136 =>
  iteB x136
  (some true)
  (bindO (F_event_Tracks p1) fun ⟨x140, x141⟩ =>
  bindO (F_law6_texts x140 x141) fun x148 =>
  bindO (F_ref6_Tracks p1) fun ⟨x150, x151⟩ =>
  bindO (F_law6_texts x150 x151) fun x158 =>
  letO (decide ((x148 : Str) ≠ x158)) fun x160 =>
  some x160))) fun g115 =>
  iteB g115
  (some false)
  (bindO (F_event_Depths p1) fun ⟨x166, x167⟩ =>
  bindO (F_ref6_Depths p1) fun ⟨x174, x175⟩ =>
  bindO (letO ([x166] : List (List Int)) fun _ =>
  bindO (F_law6_lists ([x166] : List (List Int)) x167) fun x218 =>
  letO ([x174] : List (List Int)) fun _ =>
  bindO (F_law6_lists ([x174] : List (List Int)) x175) fun x228 =>
  letO (decide ((x218 : Str) = x228)) fun x232 =>
  iteB x232
  (bindO (F_law6_reads) fun x236 =>
  some x236)
  (some false)) fun g209 =>
  some g209)
end Go.Lf
