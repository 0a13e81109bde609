/- Plain functions: what the code computes. -/
import Derived.Test.YtafgmocdnjdmoaaDoorATy
import Derived.Test.YtafgmocdnjdmoaaDoorXAw

namespace Go.Lf
open Go.RowKit Go.OB

def F_slices_Index___int_int__L1 (p0 : List Int) (p1 : Int) (k108 : Unit → Option Int) (x111 : Int) : Int → Option Int := loopO fun k211 g207 =>
  letO (decide (g207 < x111)) fun x215 =>
  iteB x215
  (bindO (at' p0 g207) fun x241 =>
  letO (decide (p1 = x241)) fun x253 =>
  iteB x253
  (some g207)
  (letO (IntKind.i64.wrap (g207 + 1)) fun x257 =>
  k211 x257))
  (k108 ())
/-- slices.Index[[]int,int] -/
def F_slices_Index___int_int_ (p0 : List Int) (p1 : Int) : Option Int :=
  joinO (fun _ =>
  some (-1)) fun k108 =>
  letO (p0.length : Int) fun x111 =>
  F_slices_Index___int_int__L1 p0 p1 k108 x111 0

/-- slices.Contains[[]int,int] -/
def F_slices_Contains___int_int_ (p0 : List Int) (p1 : Int) : Option Bool :=
  bindO (F_slices_Index___int_int_ p0 p1) fun x6 =>
  letO (decide (0 ≤ x6)) fun x10 =>
  some x10

/-- math/bits.OnesCount16 -/
def F_math_bits_OnesCount16 (p0 : Int) : Option Int :=
  bindO (shr' .u16 p0 8) fun x5 =>
  bindO (byte' [0, 1, 1, 2, 1, 2, 2, 3, 1, 2, 2, 3, 2, 3, 3, 4, 1, 2, 2, 3, 2, 3, 3, 4, 2, 3, 3, 4, 3, 4, 4, 5, 1, 2, 2, 3, 2, 3, 3, 4, 2, 3, 3, 4, 3, 4, 4, 5, 2, 3, 3, 4, 3, 4, 4, 5, 3, 4, 4, 5, 4, 5, 5, 6, 1, 2, 2, 3, 2, 3, 3, 4, 2, 3, 3, 4, 3, 4, 4, 5, 2, 3, 3, 4, 3, 4, 4, 5, 3, 4, 4, 5, 4, 5, 5, 6, 2, 3, 3, 4, 3, 4, 4, 5, 3, 4, 4, 5, 4, 5, 5, 6, 3, 4, 4, 5, 4, 5, 5, 6, 4, 5, 5, 6, 5, 6, 6, 7, 1, 2, 2, 3, 2, 3, 3, 4, 2, 3, 3, 4, 3, 4, 4, 5, 2, 3, 3, 4, 3, 4, 4, 5, 3, 4, 4, 5, 4, 5, 5, 6, 2, 3, 3, 4, 3, 4, 4, 5, 3, 4, 4, 5, 4, 5, 5, 6, 3, 4, 4, 5, 4, 5, 5, 6, 4, 5, 5, 6, 5, 6, 6, 7, 2, 3, 3, 4, 3, 4, 4, 5, 3, 4, 4, 5, 4, 5, 5, 6, 3, 4, 4, 5, 4, 5, 5, 6, 4, 5, 5, 6, 5, 6, 6, 7, 3, 4, 4, 5, 4, 5, 5, 6, 4, 5, 5, 6, 5, 6, 6, 7, 4, 5, 5, 6, 5, 6, 6, 7, 5, 6, 6, 7, 6, 7, 7, 8] x5) fun x7 =>
  letO (bits .and .u16 p0 255) fun x9 =>
  bindO (byte' [0, 1, 1, 2, 1, 2, 2, 3, 1, 2, 2, 3, 2, 3, 3, 4, 1, 2, 2, 3, 2, 3, 3, 4, 2, 3, 3, 4, 3, 4, 4, 5, 1, 2, 2, 3, 2, 3, 3, 4, 2, 3, 3, 4, 3, 4, 4, 5, 2, 3, 3, 4, 3, 4, 4, 5, 3, 4, 4, 5, 4, 5, 5, 6, 1, 2, 2, 3, 2, 3, 3, 4, 2, 3, 3, 4, 3, 4, 4, 5, 2, 3, 3, 4, 3, 4, 4, 5, 3, 4, 4, 5, 4, 5, 5, 6, 2, 3, 3, 4, 3, 4, 4, 5, 3, 4, 4, 5, 4, 5, 5, 6, 3, 4, 4, 5, 4, 5, 5, 6, 4, 5, 5, 6, 5, 6, 6, 7, 1, 2, 2, 3, 2, 3, 3, 4, 2, 3, 3, 4, 3, 4, 4, 5, 2, 3, 3, 4, 3, 4, 4, 5, 3, 4, 4, 5, 4, 5, 5, 6, 2, 3, 3, 4, 3, 4, 4, 5, 3, 4, 4, 5, 4, 5, 5, 6, 3, 4, 4, 5, 4, 5, 5, 6, 4, 5, 5, 6, 5, 6, 6, 7, 2, 3, 3, 4, 3, 4, 4, 5, 3, 4, 4, 5, 4, 5, 5, 6, 3, 4, 4, 5, 4, 5, 5, 6, 4, 5, 5, 6, 5, 6, 6, 7, 3, 4, 4, 5, 4, 5, 5, 6, 4, 5, 5, 6, 5, 6, 6, 7, 4, 5, 5, 6, 5, 6, 6, 7, 5, 6, 6, 7, 6, 7, 7, 8] x9) fun x11 =>
  letO (IntKind.u8.wrap (x7 + x11)) fun x13 =>
  letO (IntKind.i64.wrap x13) fun x15 =>
  some x15

def F_frame_Distance_L1 (p0 : Arr 64 Int) (p1 : Arr 64 Int) : Int × Int → Option Int := loopO fun k185 ⟨g180, g181⟩ =>
  letO (decide (g181 < 64)) fun x189 =>
  iteB x189
  (bindO (at' p0.l g181) fun x213 =>
  bindO (at' p1.l g181) fun x215 =>
  letO (bits .xor .u16 x213 x215) fun x217 =>
  bindO (F_math_bits_OnesCount16 x217) fun x220 =>
  letO (IntKind.i64.wrap (g180 + x220)) fun x222 =>
  letO (IntKind.i64.wrap (g181 + 1)) fun x225 =>
  k185 (x222, x225))
  (some g180)
/-- orangebox/frame.Distance -/
def F_frame_Distance (p0 : Arr 64 Int) (p1 : Arr 64 Int) : Option Int :=
  bindO (F_frame_Distance_L1 p0 p1 (0, 0)) fun g96 =>
  some g96

/-- orangebox/frame.data -/
def F_frame_data (p0 : Int) : Option Int :=
  letO (bits .and .u16 p0 2047) fun x3 =>
  letO (IntKind.i64.wrap x3) fun x5 =>
  some x5

/-- orangebox/frame.numberOf -/
def F_frame_numberOf (p0 : Option (Arr 64 Int)) : Option Int :=
  bindO p0 fun x7 =>
  bindO (at' x7.l 1) fun x18 =>
  bindO (F_frame_data x18) fun x21 =>
  bindO p0 fun x23 =>
  bindO (at' x23.l 2) fun x34 =>
  bindO (F_frame_data x34) fun x37 =>
  bindO (shl' .i64 x37 11) fun x39 =>
  letO (bits .or .i64 x21 x39) fun x41 =>
  some x41

/-- orangebox/frame.odd -/
def F_frame_odd (p0 : Int) : Option Bool :=
  bindO (letO (decide (p0 ≤ 4095)) fun x17 =>
  iteB x17
  (bindO (F_math_bits_OnesCount16 p0) fun x21 =>
  bindO (rem' x21 2) fun x25 =>
  letO (decide (x25 = 1)) fun x27 =>
  some x27)
  (some false)) fun g14 =>
  some g14

def F_frame_sumOf_L1 (p0 : Option (Arr 64 Int)) : Int × Int → Option Int := loopO fun k245 ⟨g240, g241⟩ =>
  letO (decide (g241 < 60)) fun x249 =>
  iteB x249
  (letO (IntKind.i64.wrap (g241 + 1)) fun x279 =>
  bindO p0 fun x281 =>
  bindO (at' x281.l x279) fun x292 =>
  bindO (F_frame_data x292) fun x295 =>
  letO (bits .xor .i64 g240 x295) fun x299 =>
  letO (IntKind.i64.wrap (g241 + 1)) fun x301 =>
  k245 (x299, x301))
  (some g240)
/-- orangebox/frame.sumOf -/
def F_frame_sumOf (p0 : Option (Arr 64 Int)) : Option Int :=
  bindO (F_frame_sumOf_L1 p0 (0, 0)) fun g124 =>
  some g124

def F_frame_checkOf_L2 (p0 : Option (Arr 64 Int)) (g497 : Int) : Int × Int → Option Int := loopO fun k728 ⟨g723, g724⟩ =>
  letO (decide (0 ≤ g724)) fun x737 =>
  iteB x737
  (bindO (letO (bits .and .i64 g723 2097152) fun x779 =>
  letO (decide (x779 ≠ 0)) fun x781 =>
  bindO (shl' .i64 g723 1) fun x784 =>
  letO (bits .and .i64 x784 4194303) fun x786 =>
  bindO p0 fun x789 =>
  bindO (at' x789.l g497) fun x800 =>
  bindO (shr' .u16 x800 g724) fun x802 =>
  letO (bits .and .u16 x802 1) fun x804 =>
  letO (decide (x804 = 1)) fun x806 =>
  letO (!(x781 == x806)) fun x808 =>
  iteB x808
  (letO (bits .xor .i64 x786 2097167) fun x811 =>
  some x811)
  (some x786)) fun g775 =>
  letO (IntKind.i64.wrap (g724 - 1)) fun x813 =>
  k728 (g775, x813))
  (some g723)
def F_frame_checkOf_L1 (p0 : Option (Arr 64 Int)) : Int × Int → Option Int := loopO fun k501 ⟨g496, g497⟩ =>
  letO (decide (g497 < 62)) fun x505 =>
  iteB x505
  (bindO (F_frame_checkOf_L2 p0 g497 (g496, 11)) fun g618 =>
  letO (IntKind.i64.wrap (g497 + 1)) fun x815 =>
  k501 (g618, x815))
  (some g496)
/-- orangebox/frame.checkOf -/
def F_frame_checkOf (p0 : Option (Arr 64 Int)) : Option Int :=
  bindO (F_frame_checkOf_L1 p0 (0, 0)) fun g252 =>
  some g252

def F_frame_Flaws_L1 (p0 : Arr 64 Int) : (List Flaw) × Int → Option (List Flaw) := loopO fun k154 ⟨g147, g149⟩ =>
  letO (decide (g149 < 64)) fun x158 =>
  iteB x158
  (bindO (bindO (at' p0.l g149) fun x184 =>
  letO (decide (4095 < x184)) fun x187 =>
  iteB x187
  (letO ([Flaw.mk g149 5] : List Flaw) fun _ =>
  bindO (app' 16 g147 ([Flaw.mk g149 5] : List Flaw)) fun x195 =>
  some x195)
  (some g147)) fun g179 =>
  letO (IntKind.i64.wrap (g149 + 1)) fun x199 =>
  k154 (g179, x199))
  (some g147)
def F_frame_Flaws_L2 (p0 : Arr 64 Int) : (List Flaw) × Int → Option (List Flaw) := loopO fun k442 ⟨g436, g438⟩ =>
  letO (decide (g438 < 64)) fun x451 =>
  iteB x451
  (bindO (bindO (at' p0.l g438) fun x479 =>
  bindO (F_frame_odd x479) fun x482 =>
  letO (!x482) fun x486 =>
  iteB x486
  (letO ([Flaw.mk g438 2] : List Flaw) fun _ =>
  bindO (app' 16 g436 ([Flaw.mk g438 2] : List Flaw)) fun x494 =>
  some x494)
  (some g436)) fun g474 =>
  letO (IntKind.i64.wrap (g438 + 1)) fun x498 =>
  k442 (g474, x498))
  (some g436)
/-- orangebox/frame.Flaws -/
def F_frame_Flaws (p0 : Arr 64 Int) : Option (List Flaw) :=
  bindO (F_frame_Flaws_L1 p0 ([], 0)) fun g79 =>
  letO (g79.length : Int) fun x213 =>
  letO (decide (0 < x213)) fun x218 =>
  iteB x218
  (some g79)
  (bindO (bindO (at' p0.l 0) fun x255 =>
  bindO (F_frame_numberOf (some p0)) fun x259 =>
  bindO (rem' x259 4) fun x261 =>
  bindO (at' G_frame_syncs.l x261) fun x263 =>
  letO (decide (x255 ≠ x263)) fun x265 =>
  iteB x265
  (letO ([Flaw.mk 0 1] : List Flaw) fun _ =>
  bindO (app' 16 g79 ([Flaw.mk 0 1] : List Flaw)) fun x274 =>
  some x274)
  (some g79)) fun g248 =>
  bindO (F_frame_Flaws_L2 p0 (g248, 1)) fun g358 =>
  bindO (bindO (at' p0.l 61) fun x531 =>
  bindO (F_frame_data x531) fun x534 =>
  bindO (F_frame_sumOf (some p0)) fun x540 =>
  letO (decide (x534 ≠ x540)) fun x544 =>
  iteB x544
  (letO ([Flaw.mk 61 3] : List Flaw) fun _ =>
  bindO (app' 16 g358 ([Flaw.mk 61 3] : List Flaw)) fun x552 =>
  some x552)
  (some g358)) fun g526 =>
  bindO (bindO (at' p0.l 62) fun x597 =>
  bindO (F_frame_data x597) fun x600 =>
  bindO (shl' .i64 x600 11) fun x602 =>
  bindO (at' p0.l 63) fun x604 =>
  bindO (F_frame_data x604) fun x607 =>
  letO (bits .or .i64 x602 x607) fun x609 =>
  bindO (F_frame_checkOf (some p0)) fun x613 =>
  letO (decide (x609 ≠ x613)) fun x615 =>
  iteB x615
  (letO ([Flaw.mk 62 4] : List Flaw) fun _ =>
  bindO (app' 16 g526 ([Flaw.mk 62 4] : List Flaw)) fun x624 =>
  some x624)
  (some g526)) fun g590 =>
  some g590)

def F_law1_FrameFlipsAreNoticed_L1 (p2 : List Int) (k444 : (Arr 64 Int) → Option Bool) (x447 : Int) : Int × (Arr 64 Int) → Option Bool := loopO fun k813 ⟨g808, g809⟩ =>
  letO (decide (g808 < x447)) fun x817 =>
  iteB x817
  (bindO (at' p2 g808) fun x908 =>
  bindO (letO (decide (x908 < 0)) fun x966 =>
  iteB x966
  (some true)
  (letO (decide (768 ≤ x908)) fun x969 =>
  iteB x969
  (some true)
  (bindO (sub' p2 0 g808) fun x972 =>
  bindO (F_slices_Contains___int_int_ x972 x908) fun x978 =>
  some x978))) fun g963 =>
  iteB g963
  (bindO (X_framed) fun x985 =>
  some x985)
  (bindO (quo' .i64 x908 12) fun x991 =>
  bindO (at' g809.l x991) fun x993 =>
  bindO (rem' x908 12) fun x995 =>
  bindO (shl' .u16 1 x995) fun x997 =>
  letO (bits .xor .u16 x993 x997) fun x999 =>
  bindO (at' g809.l x991) fun x1001 =>
  letO (Arr.set g809 x991 x999) fun x1003 =>
  letO (IntKind.i64.wrap (g808 + 1)) fun x1007 =>
  k813 (x1007, x1003)))
  (k444 g809)
/-- orangebox/orangeboxlaw1.FrameFlipsAreNoticed -/
def F_law1_FrameFlipsAreNoticed (p0 : Int) (p1 : List Int) (p2 : List Int) : Option Bool :=
  bindO (X_New p0 p1) fun ⟨x9, x10⟩ =>
  bindO (letO (decide (x10 ≠ 0)) fun x52 =>
  iteB x52
  (some true)
  (letO (p2.length : Int) fun x55 =>
  letO (decide (3 < x55)) fun x60 =>
  some x60)) fun g49 =>
  iteB g49
  (bindO (X_framed) fun x65 =>
  some x65)
  (joinO (fun g442 =>
  bindO (bindO (F_frame_Distance x9 g442) fun x1054 =>
  letO (p2.length : Int) fun x1058 =>
  letO (decide (x1054 = x1058)) fun x1063 =>
  iteB x1063
  (bindO (F_frame_Flaws g442) fun x1066 =>
  letO (x1066.length : Int) fun x1072 =>
  letO (decide (0 < x1072)) fun x1077 =>
  letO (p2.length : Int) fun x1079 =>
  letO (decide (0 < x1079)) fun x1084 =>
  letO (x1077 == x1084) fun x1086 =>
  iteB x1086
  (bindO (X_framed) fun x1090 =>
  some x1090)
  (some false))
  (some false)) fun g1050 =>
  some g1050) fun k444 =>
  letO (p2.length : Int) fun x447 =>
  F_law1_FrameFlipsAreNoticed_L1 p2 k444 x447 (0, x9))

def F_frame_wide_L1 (p0 : Option (Arr 64 Int)) (k107 : Unit → Option Bool) : Int → Option Bool := loopO fun k209 g205 =>
  letO (decide (g205 < 64)) fun x213 =>
  iteB x213
  (bindO p0 fun x240 =>
  bindO (at' x240.l g205) fun x251 =>
  letO (decide (4095 < x251)) fun x253 =>
  iteB x253
  (some true)
  (letO (IntKind.i64.wrap (g205 + 1)) fun x257 =>
  k209 x257))
  (k107 ())
/-- orangebox/frame.wide -/
def F_frame_wide (p0 : Option (Arr 64 Int)) : Option Bool :=
  joinO (fun _ =>
  some false) fun k107 =>
  F_frame_wide_L1 p0 k107 0

def F_frame_sound_L1 (p0 : Option (Arr 64 Int)) (k300 : Unit → Option Bool) : Int → Option Bool := loopO fun k424 g420 =>
  letO (decide (g420 < 64)) fun x433 =>
  iteB x433
  (bindO p0 fun x461 =>
  bindO (at' x461.l g420) fun x472 =>
  bindO (F_frame_odd x472) fun x475 =>
  letO (!x475) fun x479 =>
  iteB x479
  (some false)
  (letO (IntKind.i64.wrap (g420 + 1)) fun x483 =>
  k424 x483))
  (k300 ())
/-- orangebox/frame.sound -/
def F_frame_sound (p0 : Option (Arr 64 Int)) : Option Bool :=
  bindO (bindO (F_frame_wide p0) fun x123 =>
  iteB x123
  (some true)
  (bindO p0 fun x127 =>
  bindO (at' x127.l 0) fun x138 =>
  bindO (F_frame_numberOf p0) fun x141 =>
  bindO (rem' x141 4) fun x143 =>
  bindO (at' G_frame_syncs.l x143) fun x145 =>
  letO (decide (x138 ≠ x145)) fun x147 =>
  iteB x147
  (some true)
  (bindO p0 fun x151 =>
  bindO (at' x151.l 61) fun x162 =>
  bindO (F_frame_data x162) fun x165 =>
  bindO (F_frame_sumOf p0) fun x168 =>
  letO (decide (x165 ≠ x168)) fun x170 =>
  some x170))) fun g117 =>
  iteB g117
  (some false)
  (joinO (fun _ =>
  bindO p0 fun x488 =>
  bindO (at' x488.l 62) fun x499 =>
  bindO (F_frame_data x499) fun x502 =>
  bindO (shl' .i64 x502 11) fun x504 =>
  bindO p0 fun x506 =>
  bindO (at' x506.l 63) fun x517 =>
  bindO (F_frame_data x517) fun x520 =>
  letO (bits .or .i64 x504 x520) fun x522 =>
  bindO (F_frame_checkOf p0) fun x525 =>
  letO (decide (x522 = x525)) fun x527 =>
  some x527) fun k300 =>
  F_frame_sound_L1 p0 k300 1)

/-- orangebox/frame.word -/
def F_frame_word (p0 : Int) : Option Int :=
  letO (IntKind.u16.wrap p0) fun x3 =>
  bindO (bindO (F_frame_odd x3) fun x21 =>
  letO (!x21) fun x25 =>
  iteB x25
  (letO (bits .or .u16 x3 2048) fun x28 =>
  some x28)
  (some x3)) fun g16 =>
  some g16

/-- orangebox/frame.replaced -/
def F_frame_replaced (p0 : Arr 64 Int) (p1 : Int) : Option (Arr 64 Int) :=
  bindO (letO (decide (p1 = 0)) fun x127 =>
  iteB x127
  (bindO (F_frame_numberOf (some p0)) fun x132 =>
  bindO (rem' x132 4) fun x136 =>
  bindO (at' G_frame_syncs.l x136) fun x138 =>
  bindO (at' p0.l 0) fun x140 =>
  letO (Arr.set p0 0 x138) fun x142 =>
  some x142)
  (letO (decide (p1 = 61)) fun x146 =>
  iteB x146
  (bindO (F_frame_sumOf (some p0)) fun x151 =>
  bindO (F_frame_word x151) fun x156 =>
  bindO (at' p0.l p1) fun x160 =>
  letO (Arr.set p0 p1 x156) fun x162 =>
  some x162)
  (letO (decide (p1 = 62)) fun x166 =>
  iteB x166
  (bindO (F_frame_checkOf (some p0)) fun x171 =>
  bindO (shr' .i64 x171 11) fun x175 =>
  bindO (F_frame_word x175) fun x178 =>
  bindO (at' p0.l p1) fun x182 =>
  letO (Arr.set p0 p1 x178) fun x184 =>
  some x184)
  (letO (decide (p1 = 63)) fun x188 =>
  iteB x188
  (bindO (F_frame_checkOf (some p0)) fun x193 =>
  letO (bits .and .i64 x193 2047) fun x197 =>
  bindO (F_frame_word x197) fun x200 =>
  bindO (at' p0.l p1) fun x204 =>
  letO (Arr.set p0 p1 x200) fun x206 =>
  some x206)
  (bindO (F_frame_sumOf (some p0)) fun x213 =>
  bindO (at' p0.l p1) fun x215 =>
  bindO (F_frame_data x215) fun x218 =>
  letO (bits .xor .i64 x213 x218) fun x220 =>
  bindO (at' p0.l 61) fun x222 =>
  bindO (F_frame_data x222) fun x225 =>
  letO (bits .xor .i64 x220 x225) fun x227 =>
  bindO (F_frame_word x227) fun x230 =>
  bindO (at' p0.l p1) fun x232 =>
  letO (Arr.set p0 p1 x230) fun x234 =>
  some x234))))) fun g122 =>
  some g122

def F_frame_Mend_L1 (p0 : Arr 64 Int) : (List Int) × Int × (Arr 64 Int) → Option ((List Int) × (Arr 64 Int)) := loopO fun k274 ⟨g266, g268, g269⟩ =>
  letO (decide (g268 < 64)) fun x278 =>
  iteB x278
  (bindO (bindO (F_frame_replaced p0 g268) fun x322 =>
  bindO (F_frame_sound (some x322)) fun x333 =>
  iteB x333
  (letO ([g268] : List Int) fun _ =>
  bindO (app' 8 g266 ([g268] : List Int)) fun x345 =>
  some (x345, x322))
  (some (g266, g269))) fun ⟨g313, g315⟩ =>
  letO (IntKind.i64.wrap (g268 + 1)) fun x349 =>
  k274 (g313, x349, g315))
  (some (g266, g269))
/-- orangebox/frame.Mend -/
def F_frame_Mend (p0 : Arr 64 Int) : Option ((Arr 64 Int) × (List Int) × Bool) :=
  bindO (F_frame_sound (some p0)) fun x24 =>
  iteB x24
  (some (p0, [], true))
  (bindO (F_frame_wide (some p0)) fun x46 =>
  iteB x46
  (some ((Arr.rep 64 0 : Arr 64 Int), [], false))
  (bindO (F_frame_Mend_L1 p0 ([], 0, (Arr.rep 64 0 : Arr 64 Int))) fun ⟨g163, g165⟩ =>
  letO (g163.length : Int) fun x364 =>
  letO (decide (x364 ≠ 1)) fun x369 =>
  iteB x369
  (some ((Arr.rep 64 0 : Arr 64 Int), [], false))
  (some (g165, g163, true))))

/-- orangebox/orangeboxlaw1.FrameSpoiltWordIsMended -/
def F_law1_FrameSpoiltWordIsMended (p0 : Int) (p1 : List Int) (p2 : Int) (p3 : Int) : Option Bool :=
  bindO (X_New p0 p1) fun ⟨x7, x8⟩ =>
  bindO (letO (decide (x8 ≠ 0)) fun x58 =>
  iteB x58
  (some true)
  (letO (decide (p2 < 0)) fun x61 =>
  iteB x61
  (some true)
  (letO (decide (63 < p2)) fun x64 =>
  iteB x64
  (some true)
  (letO (decide (p3 < 0)) fun x67 =>
  iteB x67
  (some true)
  (letO (decide (4095 < p3)) fun x70 =>
  some x70))))) fun g55 =>
  iteB g55
  (bindO (X_framed) fun x75 =>
  some x75)
  (letO (IntKind.u16.wrap p3) fun x85 =>
  bindO (at' x7.l p2) fun x87 =>
  letO (Arr.set x7 p2 x85) fun x89 =>
  bindO (F_frame_Mend x89) fun ⟨x93, x94, x95⟩ =>
  letO (!x95) fun x133 =>
  iteB x133
  (bindO (letO (decide ((x93 : Arr 64 Int) = (Arr.rep 64 0 : Arr 64 Int))) fun x158 =>
  iteB x158
  (letO (x94.length : Int) fun x161 =>
  letO (decide (x161 = 0)) fun x166 =>
  iteB x166
  (letO (!decide ((x89 : Arr 64 Int) = x7)) fun x169 =>
  iteB x169
  (bindO (X_framed) fun x173 =>
  some x173)
  (some false))
  (some false))
  (some false)) fun g155 =>
  some g155)
  (bindO (letO (decide ((x93 : Arr 64 Int) = x7)) fun x259 =>
  iteB x259
  (letO (decide ((x89 : Arr 64 Int) = x7)) fun x262 =>
  iteB x262
  (letO (x94.length : Int) fun x265 =>
  letO (decide (x265 = 0)) fun x270 =>
  iteB x270
  (bindO (X_framed) fun x274 =>
  some x274)
  (letO (!decide ((x89 : Arr 64 Int) = x7)) fun x278 =>
  iteB x278
  (letO (x94.length : Int) fun x281 =>
  letO (decide (x281 = 1)) fun x286 =>
  iteB x286
  (bindO (at' x94 0) fun x289 =>
  letO (decide (x289 = p2)) fun x300 =>
  iteB x300
  (bindO (X_framed) fun x304 =>
  some x304)
  (some false))
  (some false))
  (some false)))
  (letO (!decide ((x89 : Arr 64 Int) = x7)) fun x308 =>
  iteB x308
  (letO (x94.length : Int) fun x311 =>
  letO (decide (x311 = 1)) fun x316 =>
  iteB x316
  (bindO (at' x94 0) fun x319 =>
  letO (decide (x319 = p2)) fun x330 =>
  iteB x330
  (bindO (X_framed) fun x334 =>
  some x334)
  (some false))
  (some false))
  (some false)))
  (some false)) fun g256 =>
  some g256))

/-- orangebox/frame.Number -/
def F_frame_Number (p0 : Arr 64 Int) : Option (Int × Bool) :=
  bindO (bindO (at' p0.l 1) fun x52 =>
  bindO (F_frame_odd x52) fun x55 =>
  letO (!x55) fun x59 =>
  iteB x59
  (some true)
  (bindO (at' p0.l 2) fun x62 =>
  bindO (F_frame_odd x62) fun x65 =>
  letO (!x65) fun x69 =>
  some x69)) fun g49 =>
  iteB g49
  (some (0, false))
  (bindO (F_frame_numberOf (some p0)) fun x76 =>
  some (x76, true))

def F_frame_Values_L1 (x263 : List Int) (x268 : Int) : (List Int) × (List Bool) × Int → Option ((List Int) × (List Bool)) := loopO fun k510 ⟨g499, g502, g504⟩ =>
  letO (decide (g504 < x268)) fun x514 =>
  iteB x514
  (bindO (at' x263 g504) fun x570 =>
  bindO (letO (decide (x570 ≤ 4095)) fun x596 =>
  iteB x596
  (bindO (F_frame_data x570) fun x600 =>
  some x600)
  (some 0)) fun g592 =>
  letO ([g592] : List Int) fun _ =>
  bindO (app' 8 g499 ([g592] : List Int)) fun x609 =>
  bindO (F_frame_odd x570) fun x614 =>
  letO ([x614] : List Bool) fun _ =>
  bindO (app' 1 g502 ([x614] : List Bool)) fun x623 =>
  letO (IntKind.i64.wrap (g504 + 1)) fun x627 =>
  k510 (x609, x623, x627))
  (some (g499, g502))
/-- orangebox/frame.Values -/
def F_frame_Values (p0 : Arr 64 Int) : Option ((List Int) × (List Bool)) :=
  bindO (bindO (sub' p0.l 3 61) fun x263 =>
  letO (x263.length : Int) fun x268 =>
  F_frame_Values_L1 x263 x268 ([], [], 0)) fun ⟨g254, g257⟩ =>
  some (g254, g257)

/-- orangebox/frame.finish -/
def F_frame_finish (p0 : Arr 64 Int) : Option (Arr 64 Int) :=
  bindO (F_frame_numberOf (some p0)) fun x9 =>
  bindO (rem' x9 4) fun x11 =>
  bindO (at' G_frame_syncs.l x11) fun x13 =>
  bindO (at' p0.l 0) fun x15 =>
  letO (Arr.set p0 0 x13) fun x17 =>
  bindO (F_frame_sumOf (some x17)) fun x26 =>
  bindO (F_frame_word x26) fun x29 =>
  bindO (at' x17.l 61) fun x31 =>
  letO (Arr.set x17 61 x29) fun x33 =>
  bindO (F_frame_checkOf (some x33)) fun x40 =>
  bindO (shr' .i64 x40 11) fun x46 =>
  bindO (F_frame_word x46) fun x49 =>
  letO (bits .and .i64 x40 2047) fun x51 =>
  bindO (F_frame_word x51) fun x54 =>
  bindO (at' x33.l 62) fun x56 =>
  letO (Arr.set x33 62 x49) fun x58 =>
  bindO (at' x58.l 63) fun x61 =>
  letO (Arr.set x58 63 x54) fun x63 =>
  some x63

def F_frame_Seal_L1 : Int × (Arr 64 Int) → Option (Arr 64 Int) := loopO fun k262 ⟨g257, g258⟩ =>
  letO (decide (g257 < 60)) fun x266 =>
  iteB x266
  (letO (IntKind.i64.wrap (g257 + 1)) fun x295 =>
  letO (IntKind.i64.wrap (g257 + 1)) fun x297 =>
  bindO (at' g258.l x297) fun x299 =>
  bindO (F_frame_data x299) fun x302 =>
  bindO (F_frame_word x302) fun x307 =>
  bindO (at' g258.l x295) fun x311 =>
  letO (Arr.set g258 x295 x307) fun x313 =>
  letO (IntKind.i64.wrap (g257 + 1)) fun x316 =>
  k262 (x316, x313))
  (some g258)
/-- orangebox/frame.Seal -/
def F_frame_Seal (p0 : Arr 64 Int) : Option ((Arr 64 Int) × Int) :=
  bindO (F_frame_wide (some p0)) fun x23 =>
  iteB x23
  (some ((Arr.rep 64 0 : Arr 64 Int), 9))
  (bindO (F_frame_Seal_L1 (0, p0)) fun g145 =>
  bindO (F_frame_finish g145) fun x319 =>
  some (x319, 0))

def F_slices_Equal___int_int__L1 (p0 : List Int) (p1 : List Int) (k201 : Unit → Option Bool) (x204 : Int) : Int → Option Bool := loopO fun k364 g360 =>
  letO (decide (g360 < x204)) fun x368 =>
  iteB x368
  (bindO (at' p0 g360) fun x411 =>
  bindO (at' p1 g360) fun x423 =>
  letO (decide (x411 ≠ x423)) fun x435 =>
  iteB x435
  (some false)
  (letO (IntKind.i64.wrap (g360 + 1)) fun x440 =>
  k364 x440))
  (k201 ())
/-- slices.Equal[[]int,int] -/
def F_slices_Equal___int_int_ (p0 : List Int) (p1 : List Int) : Option Bool :=
  letO (p0.length : Int) fun x23 =>
  letO (p1.length : Int) fun x28 =>
  letO (decide (x23 ≠ x28)) fun x33 =>
  iteB x33
  (some false)
  (joinO (fun _ =>
  some true) fun k201 =>
  letO (p0.length : Int) fun x204 =>
  F_slices_Equal___int_int__L1 p0 p1 k201 x204 0)

def F_slices_Index___bool_bool__L1 (p0 : List Bool) (p1 : Bool) (k108 : Unit → Option Int) (x111 : Int) : Int → Option Int := loopO fun k211 g207 =>
  letO (decide (g207 < x111)) fun x215 =>
  iteB x215
  (bindO (at' p0 g207) fun x241 =>
  letO (p1 == x241) fun x253 =>
  iteB x253
  (some g207)
  (letO (IntKind.i64.wrap (g207 + 1)) fun x257 =>
  k211 x257))
  (k108 ())
/-- slices.Index[[]bool,bool] -/
def F_slices_Index___bool_bool_ (p0 : List Bool) (p1 : Bool) : Option Int :=
  joinO (fun _ =>
  some (-1)) fun k108 =>
  letO (p0.length : Int) fun x111 =>
  F_slices_Index___bool_bool__L1 p0 p1 k108 x111 0

/-- slices.Contains[[]bool,bool] -/
def F_slices_Contains___bool_bool_ (p0 : List Bool) (p1 : Bool) : Option Bool :=
  bindO (F_slices_Index___bool_bool_ p0 p1) fun x6 =>
  letO (decide (0 ≤ x6)) fun x10 =>
  some x10

/-- orangebox/orangeboxlaw1.FrameNewMatchesSpec -/
def F_law1_FrameNewMatchesSpec (p0 : Int) (p1 : List Int) : Option Bool :=
  bindO (X_New p0 p1) fun ⟨x7, x8⟩ =>
  bindO (X_New p0 p1) fun ⟨x18, x19⟩ =>
  bindO (letO (!decide ((x7 : Arr 64 Int) = x18)) fun x46 =>
  iteB x46
  (some true)
  (letO (decide (x8 ≠ x19)) fun x49 =>
  some x49)) fun g43 =>
  iteB g43
  (some false)
  (letO (decide (x8 ≠ 0)) fun x65 =>
  iteB x65
  (bindO (X_framed) fun x70 =>
  some x70)
  (bindO (F_frame_Number x7) fun ⟨x76, x77⟩ =>
  bindO (F_frame_Values x7) fun ⟨x82, x83⟩ =>
  bindO (F_frame_Seal x7) fun ⟨x93, x94⟩ =>
  bindO (iteB x77
  (letO (decide (x76 = p0)) fun x149 =>
  iteB x149
  (bindO (F_slices_Equal___int_int_ x82 p1) fun x153 =>
  iteB x153
  (bindO (F_slices_Contains___bool_bool_ x83 false) fun x159 =>
  letO (!x159) fun x163 =>
  iteB x163
  (bindO (F_frame_Flaws x7) fun x166 =>
  letO (x166.length : Int) fun x172 =>
  letO (decide (x172 = 0)) fun x177 =>
  iteB x177
  (letO (decide (x94 = 0)) fun x180 =>
  iteB x180
  (letO (decide ((x93 : Arr 64 Int) = x7)) fun x183 =>
  iteB x183
  (bindO (X_framed) fun x187 =>
  some x187)
  (some false))
  (some false))
  (some false))
  (some false))
  (some false))
  (some false))
  (some false)) fun g145 =>
  some g145))

/-- orangebox/orangeboxref1.Right -/
def F_ref1_Right (p0 : Int) : Option Bool :=
  bindO (letO (decide (p0 ≤ 4095)) fun x15 =>
  iteB x15
  (letO (IntKind.i64.wrap p0) fun x18 =>
  bindO (X_odd x18) fun x21 =>
  some x21)
  (some false)) fun g12 =>
  some g12

/-- orangebox/orangeboxref1.numberOf -/
def F_ref1_numberOf (p0 : Arr 64 Int) : Option Int :=
  bindO (at' p0.l 1) fun x6 =>
  letO (IntKind.i64.wrap x6) fun x8 =>
  bindO (rem' x8 2048) fun x10 =>
  bindO (at' p0.l 2) fun x12 =>
  letO (IntKind.i64.wrap x12) fun x14 =>
  bindO (rem' x14 2048) fun x16 =>
  letO (IntKind.i64.wrap (x16 * 2048)) fun x18 =>
  letO (IntKind.i64.wrap (x10 + x18)) fun x20 =>
  some x20

/-- orangebox/orangeboxref1.Number -/
def F_ref1_Number (p0 : Arr 64 Int) : Option (Int × Bool) :=
  bindO (bindO (at' p0.l 1) fun x52 =>
  bindO (F_ref1_Right x52) fun x55 =>
  letO (!x55) fun x59 =>
  iteB x59
  (some true)
  (bindO (at' p0.l 2) fun x62 =>
  bindO (F_ref1_Right x62) fun x65 =>
  letO (!x65) fun x69 =>
  some x69)) fun g49 =>
  iteB g49
  (some (0, false))
  (bindO (F_ref1_numberOf p0) fun x75 =>
  some (x75, true))

def F_ref1_Values_L1 (p0 : Arr 64 Int) : (List Int) × (List Bool) × Int → Option ((List Int) × (List Bool)) := loopO fun k454 ⟨g443, g446, g448⟩ =>
  letO (decide (g448 ≤ 60)) fun x463 =>
  iteB x463
  (bindO (bindO (at' p0.l g448) fun x527 =>
  letO (decide (x527 ≤ 4095)) fun x529 =>
  iteB x529
  (bindO (at' p0.l g448) fun x532 =>
  letO (IntKind.i64.wrap x532) fun x534 =>
  bindO (rem' x534 2048) fun x536 =>
  some x536)
  (some 0)) fun g523 =>
  bindO (at' p0.l g448) fun x541 =>
  letO ([g523] : List Int) fun _ =>
  bindO (app' 8 g443 ([g523] : List Int)) fun x548 =>
  bindO (F_ref1_Right x541) fun x553 =>
  letO ([x553] : List Bool) fun _ =>
  bindO (app' 1 g446 ([x553] : List Bool)) fun x560 =>
  letO (IntKind.i64.wrap (g448 + 1)) fun x565 =>
  k454 (x548, x560, x565))
  (some (g443, g446))
/-- orangebox/orangeboxref1.Values -/
def F_ref1_Values (p0 : Arr 64 Int) : Option ((List Int) × (List Bool)) :=
  bindO (F_ref1_Values_L1 p0 ([], [], 3)) fun ⟨g226, g229⟩ =>
  some (g226, g229)

def F_slices_Equal___bool_bool__L1 (p0 : List Bool) (p1 : List Bool) (k201 : Unit → Option Bool) (x204 : Int) : Int → Option Bool := loopO fun k364 g360 =>
  letO (decide (g360 < x204)) fun x368 =>
  iteB x368
  (bindO (at' p0 g360) fun x411 =>
  bindO (at' p1 g360) fun x423 =>
  letO (!(x411 == x423)) fun x435 =>
  iteB x435
  (some false)
  (letO (IntKind.i64.wrap (g360 + 1)) fun x440 =>
  k364 x440))
  (k201 ())
/-- slices.Equal[[]bool,bool] -/
def F_slices_Equal___bool_bool_ (p0 : List Bool) (p1 : List Bool) : Option Bool :=
  letO (p0.length : Int) fun x23 =>
  letO (p1.length : Int) fun x28 =>
  letO (decide (x23 ≠ x28)) fun x33 =>
  iteB x33
  (some false)
  (joinO (fun _ =>
  some true) fun k201 =>
  letO (p0.length : Int) fun x204 =>
  F_slices_Equal___bool_bool__L1 p0 p1 k201 x204 0)

/-- orangebox/orangeboxref1.syncOf -/
def F_ref1_syncOf (p0 : Int) : Option Int :=
  bindO (rem' p0 4) fun x3 =>
  bindO (at' (⟨[583, 1464, 2631, 3512], rfl⟩ : Arr 4 Int).l x3) fun x5 =>
  some x5

def F_ref1_Flaws_L1 (p0 : Arr 64 Int) : (List Flaw) × Int → Option (List Flaw) := loopO fun k153 ⟨g146, g148⟩ =>
  letO (decide (g148 < 64)) fun x157 =>
  iteB x157
  (bindO (bindO (at' p0.l g148) fun x183 =>
  letO (decide (4095 < x183)) fun x186 =>
  iteB x186
  (letO ([Flaw.mk g148 5] : List Flaw) fun _ =>
  bindO (app' 16 g146 ([Flaw.mk g148 5] : List Flaw)) fun x194 =>
  some x194)
  (some g146)) fun g178 =>
  letO (IntKind.i64.wrap (g148 + 1)) fun x198 =>
  k153 (g178, x198))
  (some g146)
def F_ref1_Flaws_L2 (p0 : Arr 64 Int) : (List Flaw) × Int → Option (List Flaw) := loopO fun k449 ⟨g443, g445⟩ =>
  letO (decide (g445 < 64)) fun x458 =>
  iteB x458
  (bindO (bindO (at' p0.l g445) fun x488 =>
  letO (IntKind.i64.wrap x488) fun x490 =>
  bindO (X_odd x490) fun x493 =>
  letO (!x493) fun x497 =>
  iteB x497
  (letO ([Flaw.mk g445 2] : List Flaw) fun _ =>
  bindO (app' 16 g443 ([Flaw.mk g445 2] : List Flaw)) fun x505 =>
  some x505)
  (some g443)) fun g483 =>
  letO (IntKind.i64.wrap (g445 + 1)) fun x509 =>
  k449 (g483, x509))
  (some g443)
/-- orangebox/orangeboxref1.Flaws -/
def F_ref1_Flaws (p0 : Arr 64 Int) : Option (List Flaw) :=
  bindO (F_ref1_Flaws_L1 p0 ([], 0)) fun g78 =>
  letO (g78.length : Int) fun x212 =>
  letO (decide (0 < x212)) fun x217 =>
  iteB x217
  (some g78)
  (bindO (bindO (at' p0.l 0) fun x254 =>
  letO (IntKind.i64.wrap x254) fun x256 =>
  bindO (F_ref1_numberOf p0) fun x259 =>
  bindO (F_ref1_syncOf x259) fun x262 =>
  letO (decide (x256 ≠ x262)) fun x264 =>
  iteB x264
  (letO ([Flaw.mk 0 1] : List Flaw) fun _ =>
  bindO (app' 16 g78 ([Flaw.mk 0 1] : List Flaw)) fun x273 =>
  some x273)
  (some g78)) fun g247 =>
  bindO (F_ref1_Flaws_L2 p0 (g247, 1)) fun g361 =>
  bindO (bindO (at' p0.l 61) fun x543 =>
  letO (IntKind.i64.wrap x543) fun x545 =>
  bindO (rem' x545 2048) fun x547 =>
  bindO (X_sum p0) fun x550 =>
  letO (decide (x547 ≠ x550)) fun x552 =>
  iteB x552
  (letO ([Flaw.mk 61 3] : List Flaw) fun _ =>
  bindO (app' 16 g361 ([Flaw.mk 61 3] : List Flaw)) fun x561 =>
  some x561)
  (some g361)) fun g536 =>
  bindO (bindO (at' p0.l 62) fun x607 =>
  letO (IntKind.i64.wrap x607) fun x609 =>
  bindO (rem' x609 2048) fun x611 =>
  letO (IntKind.i64.wrap (x611 * 2048)) fun x613 =>
  bindO (at' p0.l 63) fun x615 =>
  letO (IntKind.i64.wrap x615) fun x617 =>
  bindO (rem' x617 2048) fun x619 =>
  letO (IntKind.i64.wrap (x613 + x619)) fun x621 =>
  bindO (X_check p0) fun x624 =>
  letO (decide (x621 ≠ x624)) fun x626 =>
  iteB x626
  (letO ([Flaw.mk 62 4] : List Flaw) fun _ =>
  bindO (app' 16 g536 ([Flaw.mk 62 4] : List Flaw)) fun x635 =>
  some x635)
  (some g536)) fun g600 =>
  some g600)

def F_slices_Equal___api_Flaw_api_Flaw__L1 (p0 : List Flaw) (p1 : List Flaw) (k201 : Unit → Option Bool) (x204 : Int) : Int → Option Bool := loopO fun k364 g360 =>
  letO (decide (g360 < x204)) fun x368 =>
  iteB x368
  (bindO (at' p0 g360) fun x411 =>
  bindO (at' p1 g360) fun x423 =>
  letO (!decide ((x411 : Flaw) = x423)) fun x435 =>
  iteB x435
  (some false)
  (letO (IntKind.i64.wrap (g360 + 1)) fun x440 =>
  k364 x440))
  (k201 ())
/-- slices.Equal[[]orangebox/api.Flaw,orangebox/api.Flaw] -/
def F_slices_Equal___api_Flaw_api_Flaw_ (p0 : List Flaw) (p1 : List Flaw) : Option Bool :=
  letO (p0.length : Int) fun x23 =>
  letO (p1.length : Int) fun x28 =>
  letO (decide (x23 ≠ x28)) fun x33 =>
  iteB x33
  (some false)
  (joinO (fun _ =>
  some true) fun k201 =>
  letO (p0.length : Int) fun x204 =>
  F_slices_Equal___api_Flaw_api_Flaw__L1 p0 p1 k201 x204 0)

def F_ref1_Wide_L1 (p0 : Arr 64 Int) (k64 : Unit → Option Bool) : Int → Option Bool := loopO fun k122 g118 =>
  letO (decide (g118 < 64)) fun x126 =>
  iteB x126
  (bindO (at' p0.l g118) fun x141 =>
  letO (decide (4095 < x141)) fun x144 =>
  iteB x144
  (some true)
  (letO (IntKind.i64.wrap (g118 + 1)) fun x148 =>
  k122 x148))
  (k64 ())
/-- orangebox/orangeboxref1.Wide -/
def F_ref1_Wide (p0 : Arr 64 Int) : Option Bool :=
  joinO (fun _ =>
  some false) fun k64 =>
  F_ref1_Wide_L1 p0 k64 0

/-- orangebox/orangeboxref1.Seal -/
def F_ref1_Seal (p0 : Arr 64 Int) : Option ((Arr 64 Int) × Int) :=
  bindO (F_ref1_Wide p0) fun x20 =>
  iteB x20
  (some ((Arr.rep 64 0 : Arr 64 Int), 9))
  (bindO (X_sealed p0) fun x29 =>
  some (x29, 0))

def F_frame_Hash_L2 (x421 : Int) (x425 : Int) : Int × Int → Option Int := loopO fun k480 ⟨g475, g476⟩ =>
  letO (decide (g476 < 2)) fun x484 =>
  iteB x484
  (bindO (at' (⟨[x421, x425], rfl⟩ : Arr 2 Int).l g476) fun x498 =>
  letO (bits .xor .u64 g475 x498) fun x500 =>
  letO (IntKind.u64.wrap (x500 * 1099511628211)) fun x502 =>
  letO (IntKind.i64.wrap (g476 + 1)) fun x504 =>
  k480 (x502, x504))
  (some g475)
def F_frame_Hash_L1 (p0 : Arr 64 Int) : Int × Int → Option Int := loopO fun k337 ⟨g332, g333⟩ =>
  letO (decide (g333 < 64)) fun x341 =>
  iteB x341
  (bindO (bindO (at' p0.l g333) fun x416 =>
  bindO (shr' .u16 x416 8) fun x419 =>
  letO (IntKind.u64.wrap x419) fun x421 =>
  letO (bits .and .u16 x416 255) fun x423 =>
  letO (IntKind.u64.wrap x423) fun x425 =>
  F_frame_Hash_L2 x421 x425 (g332, 0)) fun g412 =>
  letO (IntKind.i64.wrap (g333 + 1)) fun x506 =>
  k337 (g412, x506))
  (some g332)
def F_frame_Hash_L3 (g172 : Int) : Int × (Arr 8 Int) → Option (Arr 8 Int) := loopO fun k680 ⟨g675, g676⟩ =>
  letO (decide (g675 < 8)) fun x684 =>
  iteB x684
  (letO (IntKind.i64.wrap (8 * g675)) fun x705 =>
  letO (IntKind.i64.wrap (56 - x705)) fun x707 =>
  bindO (shr' .u64 g172 x707) fun x709 =>
  letO (IntKind.u8.wrap x709) fun x711 =>
  bindO (at' g676.l g675) fun x713 =>
  letO (Arr.set g676 g675 x711) fun x715 =>
  letO (IntKind.i64.wrap (g675 + 1)) fun x718 =>
  k680 (x718, x715))
  (some g676)
/-- orangebox/frame.Hash -/
def F_frame_Hash (p0 : Arr 64 Int) : Option (Arr 8 Int) :=
  bindO (F_frame_Hash_L1 p0 (14695981039346656037, 0)) fun g172 =>
  bindO (F_frame_Hash_L3 g172 (0, (Arr.rep 8 0 : Arr 8 Int))) fun g595 =>
  some g595

def F_ref1_Hash_L2 (x651 : Int) (x655 : Int) (x662 : Int) : Int × Int → Option Int := loopO fun k756 ⟨g751, g752⟩ =>
  letO (decide (g752 < x662)) fun x760 =>
  iteB x760
  (bindO (at' ([x651, x655] : List Int) g752) fun x783 =>
  letO (bits .xor .u64 g751 x783) fun x794 =>
  letO (IntKind.u64.wrap (x794 * 1099511628211)) fun x796 =>
  letO (IntKind.i64.wrap (g752 + 1)) fun x798 =>
  k756 (x796, x798))
  (some g751)
def F_ref1_Hash_L1 (p0 : Arr 64 Int) : Int × Int → Option Int := loopO fun k521 ⟨g516, g517⟩ =>
  letO (decide (g517 < 64)) fun x525 =>
  iteB x525
  (bindO (bindO (at' p0.l g517) fun x646 =>
  bindO (quo' .u16 x646 256) fun x649 =>
  letO (IntKind.u64.wrap x649) fun x651 =>
  bindO (rem' x646 256) fun x653 =>
  letO (IntKind.u64.wrap x653) fun x655 =>
  letO ([x651, x655] : List Int) fun _ =>
  letO ((([x651, x655] : List Int)).length : Int) fun x662 =>
  F_ref1_Hash_L2 x651 x655 x662 (g516, 0)) fun g642 =>
  letO (IntKind.i64.wrap (g517 + 1)) fun x800 =>
  k521 (g642, x800))
  (some g516)
def F_ref1_Hash_L3 (g264 : Int) : Int × (Arr 8 Int) → Option (Arr 8 Int) := loopO fun k974 ⟨g969, g970⟩ =>
  letO (decide (g969 < 8)) fun x978 =>
  iteB x978
  (letO (IntKind.i64.wrap (8 * g969)) fun x999 =>
  letO (IntKind.i64.wrap (56 - x999)) fun x1001 =>
  bindO (shr' .u64 g264 x1001) fun x1003 =>
  letO (IntKind.u8.wrap x1003) fun x1005 =>
  bindO (at' g970.l g969) fun x1007 =>
  letO (Arr.set g970 g969 x1005) fun x1009 =>
  letO (IntKind.i64.wrap (g969 + 1)) fun x1012 =>
  k974 (x1012, x1009))
  (some g970)
/-- orangebox/orangeboxref1.Hash -/
def F_ref1_Hash (p0 : Arr 64 Int) : Option (Arr 8 Int) :=
  bindO (F_ref1_Hash_L1 p0 (14695981039346656037, 0)) fun g264 =>
  bindO (F_ref1_Hash_L3 g264 (0, (Arr.rep 8 0 : Arr 8 Int))) fun g889 =>
  some g889

/-- orangebox/orangeboxlaw1.FrameReadMatchesSpec -/
def F_law1_FrameReadMatchesSpec (p0 : Arr 64 Int) : Option Bool :=
  bindO (F_frame_Number p0) fun ⟨x8, x9⟩ =>
  bindO (F_ref1_Number p0) fun ⟨x15, x16⟩ =>
  bindO (letO (decide (x8 ≠ x15)) fun x39 =>
  iteB x39
  (some true)
  (letO (!(x9 == x16)) fun x42 =>
  some x42)) fun g36 =>
  iteB g36
  (some false)
  (bindO (F_frame_Values p0) fun ⟨x47, x48⟩ =>
  bindO (F_ref1_Values p0) fun ⟨x57, x58⟩ =>
  bindO (bindO (F_slices_Equal___int_int_ x47 x57) fun x146 =>
  letO (!x146) fun x148 =>
  iteB x148
  (some true)
  (bindO (F_slices_Equal___bool_bool_ x48 x58) fun x153 =>
  letO (!x153) fun x155 =>
  iteB x155
  (some true)
  (bindO (F_frame_Flaws p0) fun x159 =>
  bindO (F_ref1_Flaws p0) fun x165 =>
  bindO (F_slices_Equal___api_Flaw_api_Flaw_ x159 x165) fun x172 =>
  letO (!x172) fun x174 =>
  some x174))) fun g140 =>
  iteB g140
  (some false)
  (bindO (F_frame_Seal p0) fun ⟨x181, x182⟩ =>
  bindO (F_ref1_Seal p0) fun ⟨x192, x193⟩ =>
  bindO (letO (decide ((x181 : Arr 64 Int) = x192)) fun x230 =>
  iteB x230
  (letO (decide (x182 = x193)) fun x233 =>
  iteB x233
  (bindO (F_frame_Hash p0) fun x237 =>
  bindO (F_ref1_Hash p0) fun x240 =>
  letO (decide ((x237 : Arr 8 Int) = x240)) fun x242 =>
  iteB x242
  (bindO (X_framed) fun x246 =>
  some x246)
  (some false))
  (some false))
  (some false)) fun g225 =>
  some g225))

/-- orangebox/orangeboxref1.Sound -/
def F_ref1_Sound (p0 : Arr 64 Int) : Option Bool :=
  bindO (F_ref1_Flaws p0) fun x6 =>
  letO (x6.length : Int) fun x12 =>
  letO (decide (x12 = 0)) fun x17 =>
  some x17

/-- orangebox/orangeboxref1.PutWord -/
def F_ref1_PutWord (p0 : Arr 64 Int) (p1 : Int) : Option (Arr 64 Int) :=
  bindO (letO (decide (p1 = 0)) fun x132 =>
  iteB x132
  (bindO (F_ref1_numberOf p0) fun x136 =>
  bindO (F_ref1_syncOf x136) fun x141 =>
  letO (IntKind.u16.wrap x141) fun x145 =>
  bindO (at' p0.l 0) fun x147 =>
  letO (Arr.set p0 0 x145) fun x149 =>
  some x149)
  (letO (decide (p1 ≤ 60)) fun x153 =>
  iteB x153
  (bindO (at' p0.l p1) fun x158 =>
  letO (IntKind.i64.wrap x158) fun x160 =>
  bindO (rem' x160 2048) fun x162 =>
  bindO (X_sum p0) fun x165 =>
  letO (bits .xor .i64 x162 x165) fun x167 =>
  bindO (at' p0.l 61) fun x169 =>
  letO (IntKind.i64.wrap x169) fun x171 =>
  bindO (rem' x171 2048) fun x173 =>
  letO (bits .xor .i64 x167 x173) fun x175 =>
  bindO (X_word x175) fun x178 =>
  letO (IntKind.u16.wrap x178) fun x180 =>
  bindO (at' p0.l p1) fun x182 =>
  letO (Arr.set p0 p1 x180) fun x184 =>
  some x184)
  (letO (decide (p1 = 61)) fun x189 =>
  iteB x189
  (bindO (X_sum p0) fun x193 =>
  bindO (X_word x193) fun x198 =>
  letO (IntKind.u16.wrap x198) fun x202 =>
  bindO (at' p0.l 61) fun x204 =>
  letO (Arr.set p0 61 x202) fun x206 =>
  some x206)
  (letO (decide (p1 = 62)) fun x210 =>
  iteB x210
  (bindO (X_check p0) fun x214 =>
  bindO (quo' .i64 x214 2048) fun x218 =>
  bindO (X_word x218) fun x221 =>
  letO (IntKind.u16.wrap x221) fun x225 =>
  bindO (at' p0.l 62) fun x227 =>
  letO (Arr.set p0 62 x225) fun x229 =>
  some x229)
  (bindO (X_check p0) fun x233 =>
  bindO (rem' x233 2048) fun x237 =>
  bindO (X_word x237) fun x240 =>
  letO (IntKind.u16.wrap x240) fun x244 =>
  bindO (at' p0.l 63) fun x246 =>
  letO (Arr.set p0 63 x244) fun x248 =>
  some x248))))) fun g128 =>
  some g128

def F_ref1_Mend_L1 (p0 : Arr 64 Int) : (List Int) × Int × (Arr 64 Int) → Option ((List Int) × (Arr 64 Int)) := loopO fun k278 ⟨g270, g272, g273⟩ =>
  letO (decide (g272 < 64)) fun x282 =>
  iteB x282
  (bindO (bindO (F_ref1_PutWord p0 g272) fun x328 =>
  bindO (F_ref1_Sound x328) fun x338 =>
  iteB x338
  (letO ([g272] : List Int) fun _ =>
  bindO (app' 8 g270 ([g272] : List Int)) fun x351 =>
  some (x351, x328))
  (some (g270, g273))) fun ⟨g319, g321⟩ =>
  letO (IntKind.i64.wrap (g272 + 1)) fun x357 =>
  k278 (g319, x357, g321))
  (some (g270, g273))
/-- orangebox/orangeboxref1.Mend -/
def F_ref1_Mend (p0 : Arr 64 Int) : Option ((Arr 64 Int) × (List Int) × Bool) :=
  bindO (F_ref1_Wide p0) fun x21 =>
  iteB x21
  (some ((Arr.rep 64 0 : Arr 64 Int), [], false))
  (bindO (F_ref1_Sound p0) fun x41 =>
  iteB x41
  (some (p0, [], true))
  (bindO (F_ref1_Mend_L1 p0 ([], 0, (Arr.rep 64 0 : Arr 64 Int))) fun ⟨g163, g165⟩ =>
  letO (g163.length : Int) fun x372 =>
  letO (decide (x372 ≠ 1)) fun x377 =>
  iteB x377
  (some ((Arr.rep 64 0 : Arr 64 Int), [], false))
  (some (g165, g163, true))))

/-- orangebox/orangeboxlaw1.FrameMendMatchesSpec -/
def F_law1_FrameMendMatchesSpec (p0 : Arr 64 Int) : Option Bool :=
  bindO (F_frame_Mend p0) fun ⟨x7, x8, x9⟩ =>
  bindO (F_ref1_Mend p0) fun ⟨x20, x21, x22⟩ =>
  bindO (letO (decide ((x7 : Arr 64 Int) = x20)) fun x52 =>
  iteB x52
  (bindO (F_slices_Equal___int_int_ x8 x21) fun x56 =>
  iteB x56
  (letO (x9 == x22) fun x61 =>
  iteB x61
  (bindO (X_framed) fun x65 =>
  some x65)
  (some false))
  (some false))
  (some false)) fun g49 =>
  some g49

/-- slices.Clone[[]byte,byte] -/
def F_slices_Clone___byte_byte_ (p0 : List Int) : Option (List Int) :=
  nilO p0 fun x18 =>
  iteB x18
  (some [])
  (bindO (app' 1 ([] : List Int) p0) fun x27 =>
  some x27)

/-- orangebox/frame.wordIn -/
def F_frame_wordIn (p0 : Option (Arr 96 Int)) (p1 : Int) : Option Int :=
  bindO (quo' .i64 p1 2) fun x5 =>
  letO (IntKind.i64.wrap (x5 * 3)) fun x7 =>
  bindO (rem' p1 2) fun x59 =>
  letO (decide (x59 = 0)) fun x61 =>
  iteB x61
  (bindO p0 fun x67 =>
  bindO (at' x67.l x7) fun x78 =>
  letO (IntKind.u16.wrap x78) fun x80 =>
  bindO (shl' .u16 x80 4) fun x82 =>
  letO (IntKind.i64.wrap (x7 + 1)) fun x84 =>
  bindO p0 fun x86 =>
  bindO (at' x86.l x84) fun x97 =>
  letO (IntKind.u16.wrap x97) fun x99 =>
  bindO (shr' .u16 x99 4) fun x101 =>
  letO (bits .or .u16 x82 x101) fun x103 =>
  some x103)
  (letO (IntKind.i64.wrap (x7 + 1)) fun x109 =>
  bindO p0 fun x111 =>
  bindO (at' x111.l x109) fun x122 =>
  letO (IntKind.u16.wrap x122) fun x124 =>
  letO (bits .and .u16 x124 15) fun x126 =>
  bindO (shl' .u16 x126 8) fun x128 =>
  letO (IntKind.i64.wrap (x7 + 2)) fun x130 =>
  bindO p0 fun x132 =>
  bindO (at' x132.l x130) fun x143 =>
  letO (IntKind.u16.wrap x143) fun x145 =>
  letO (bits .or .u16 x128 x145) fun x147 =>
  some x147)

def F_frame_load_L1 (p0 : Option (Arr 96 Int)) : Int × (Arr 64 Int) → Option (Arr 64 Int) := loopO fun k155 ⟨g150, g151⟩ =>
  letO (decide (g150 < 64)) fun x159 =>
  iteB x159
  (bindO (F_frame_wordIn p0 g150) fun x178 =>
  bindO (at' g151.l g150) fun x182 =>
  letO (Arr.set g151 g150 x178) fun x184 =>
  letO (IntKind.i64.wrap (g150 + 1)) fun x187 =>
  k155 (x187, x184))
  (some g151)
/-- orangebox/frame.load -/
def F_frame_load (p0 : Option (Arr 96 Int)) : Option (Arr 64 Int) :=
  bindO (F_frame_load_L1 p0 (0, (Arr.rep 64 0 : Arr 64 Int))) fun g82 =>
  some g82

/-- orangebox/frame.FromBytes -/
def F_frame_FromBytes (p0 : List Int) : Option ((Arr 64 Int) × Int) :=
  letO (p0.length : Int) fun x20 =>
  letO (decide (x20 < 96)) fun x25 =>
  iteB x25
  (some ((Arr.rep 64 0 : Arr 64 Int), 3))
  (bindO (sub' p0 0 96) fun x31 =>
  bindO (arr' 96 x31) fun x36 =>
  bindO (F_frame_load (some x36)) fun x52 =>
  some (x52, 0))

def F_ref1_frame_L2 (p0 : List Int) (g1223 : Int) : Int × (Arr 64 Int) → Option (Arr 64 Int) := loopO fun k1815 ⟨g1810, g1811⟩ =>
  letO (decide (g1810 < 3)) fun x1819 =>
  iteB x1819
  (letO (IntKind.i64.wrap (3 * g1223)) fun x1892 =>
  letO (IntKind.i64.wrap (x1892 + g1810)) fun x1894 =>
  bindO (quo' .i64 x1894 2) fun x1897 =>
  bindO (at' p0 x1897) fun x1899 =>
  letO (IntKind.i64.wrap x1899) fun x1911 =>
  bindO (quo' .i64 x1911 16) fun x1913 =>
  bindO (bindO (rem' x1894 2) fun x1943 =>
  letO (decide (x1943 = 1)) fun x1945 =>
  iteB x1945
  (bindO (quo' .i64 x1894 2) fun x1948 =>
  bindO (at' p0 x1948) fun x1950 =>
  letO (IntKind.i64.wrap x1950) fun x1962 =>
  bindO (rem' x1962 16) fun x1964 =>
  some x1964)
  (some x1913)) fun g1939 =>
  bindO (at' g1811.l g1223) fun x1966 =>
  letO (IntKind.u16.wrap (x1966 * 16)) fun x1968 =>
  letO (IntKind.u16.wrap g1939) fun x1970 =>
  letO (IntKind.u16.wrap (x1968 + x1970)) fun x1972 =>
  bindO (at' g1811.l g1223) fun x1974 =>
  letO (Arr.set g1811 g1223 x1972) fun x1976 =>
  letO (IntKind.i64.wrap (g1810 + 1)) fun x1979 =>
  k1815 (x1979, x1976))
  (some g1811)
def F_ref1_frame_L1 (p0 : List Int) : Int × (Arr 64 Int) → Option (Arr 64 Int) := loopO fun k1228 ⟨g1223, g1224⟩ =>
  letO (decide (g1223 < 64)) fun x1232 =>
  iteB x1232
  (bindO (F_ref1_frame_L2 p0 g1223 (0, g1224)) fun g1525 =>
  letO (IntKind.i64.wrap (g1223 + 1)) fun x1981 =>
  k1228 (x1981, g1525))
  (some g1224)
/-- orangebox/orangeboxref1.frame -/
def F_ref1_frame (p0 : List Int) : Option (Arr 64 Int) :=
  bindO (F_ref1_frame_L1 p0 (0, (Arr.rep 64 0 : Arr 64 Int))) fun g619 =>
  some g619

/-- orangebox/orangeboxref1.FromBytes -/
def F_ref1_FromBytes (p0 : List Int) : Option ((Arr 64 Int) × Int) :=
  letO (p0.length : Int) fun x20 =>
  letO (decide (x20 < 96)) fun x25 =>
  iteB x25
  (some ((Arr.rep 64 0 : Arr 64 Int), 3))
  (bindO (F_ref1_frame p0) fun x32 =>
  some (x32, 0))

/-- orangebox/frame.checkPlace -/
def F_frame_checkPlace (p0 : List Int) (p1 : Int) (p2 : Int) : Option Int :=
  letO (decide (p1 < 0)) fun x23 =>
  iteB x23
  (some 9)
  (letO (p0.length : Int) fun x28 =>
  letO (IntKind.i64.wrap (x28 - p2)) fun x33 =>
  letO (decide (x33 < p1)) fun x35 =>
  iteB x35
  (some 3)
  (some 0))

/-- orangebox/frame.inPlace -/
def F_frame_inPlace (p0 : List Int) (p1 : Int) : Option ((Option (Arr 96 Int)) × Int) :=
  bindO (F_frame_checkPlace p0 p1 96) fun x19 =>
  letO (decide (x19 ≠ 0)) fun x24 =>
  iteB x24
  (some (none, x19))
  (letO (IntKind.i64.wrap (p1 + 96)) fun x30 =>
  bindO (sub' p0 p1 x30) fun x32 =>
  bindO (arr' 96 x32) fun x37 =>
  some (some x37, 0))

/-- orangebox/frame.Get -/
def F_frame_Get (p0 : List Int) (p1 : Int) : Option ((Arr 64 Int) × Int) :=
  bindO (F_frame_inPlace p0 p1) fun ⟨x8, x9⟩ =>
  letO (decide (x9 ≠ 0)) fun x23 =>
  iteB x23
  (some ((Arr.rep 64 0 : Arr 64 Int), x9))
  (bindO (F_frame_load x8) fun x30 =>
  some (x30, 0))

/-- orangebox/orangeboxref1.Place -/
def F_ref1_Place (p0 : List Int) (p1 : Int) (p2 : Int) : Option Int :=
  letO (decide (p1 < 0)) fun x11 =>
  iteB x11
  (some 9)
  (bindO (letO (p0.length : Int) fun x58 =>
  letO (decide (x58 < p1)) fun x63 =>
  iteB x63
  (some true)
  (letO (p0.length : Int) fun x66 =>
  letO (IntKind.i64.wrap (x66 - p1)) fun x71 =>
  letO (decide (x71 < p2)) fun x73 =>
  some x73)) fun g55 =>
  iteB g55
  (some 3)
  (some 0))

/-- orangebox/orangeboxref1.Get -/
def F_ref1_Get (p0 : List Int) (p1 : Int) : Option ((Arr 64 Int) × Int) :=
  bindO (F_ref1_Place p0 p1 96) fun x22 =>
  letO (decide (x22 ≠ 0)) fun x27 =>
  iteB x27
  (some ((Arr.rep 64 0 : Arr 64 Int), x22))
  (bindO (sub' p0 p1 (p0.length : Int)) fun x33 =>
  bindO (F_ref1_frame x33) fun x39 =>
  some (x39, 0))

/-- orangebox/frame.WordAt -/
def F_frame_WordAt (p0 : List Int) (p1 : Int) (p2 : Int) : Option (Int × Int) :=
  bindO (F_frame_inPlace p0 p1) fun ⟨x5, x6⟩ =>
  letO (decide (x6 ≠ 0)) fun x19 =>
  iteB x19
  (some (0, x6))
  (bindO (letO (decide (p2 < 0)) fun x42 =>
  iteB x42
  (some true)
  (letO (decide (64 ≤ p2)) fun x45 =>
  some x45)) fun g39 =>
  iteB g39
  (some (0, 9))
  (bindO (F_frame_wordIn x5 p2) fun x51 =>
  letO (IntKind.i64.wrap x51) fun x55 =>
  some (x55, 0)))

/-- orangebox/orangeboxref1.WordAt -/
def F_ref1_WordAt (p0 : List Int) (p1 : Int) (p2 : Int) : Option (Int × Int) :=
  bindO (F_ref1_Place p0 p1 96) fun x18 =>
  letO (decide (x18 ≠ 0)) fun x23 =>
  iteB x23
  (some (0, x18))
  (bindO (letO (decide (p2 < 0)) fun x46 =>
  iteB x46
  (some true)
  (letO (decide (63 < p2)) fun x49 =>
  some x49)) fun g43 =>
  iteB g43
  (some (0, 9))
  (bindO (sub' p0 p1 (p0.length : Int)) fun x54 =>
  bindO (F_ref1_frame x54) fun x60 =>
  bindO (at' x60.l p2) fun x64 =>
  letO (IntKind.i64.wrap x64) fun x66 =>
  some (x66, 0)))

/-- orangebox/frame.Same -/
def F_frame_Same (p0 : List Int) (p1 : Int) (p2 : List Int) (p3 : Int) : Option (Bool × Int) :=
  bindO (F_frame_inPlace p0 p1) fun ⟨x21, x22⟩ =>
  letO (decide (x22 ≠ 0)) fun x29 =>
  iteB x29
  (some (false, x22))
  (bindO (F_frame_inPlace p2 p3) fun ⟨x48, x49⟩ =>
  letO (decide (x49 ≠ 0)) fun x56 =>
  iteB x56
  (some (false, x49))
  (letO (IntKind.i64.wrap (p1 + 96)) fun x63 =>
  bindO (sub' p0 p1 x63) fun x65 =>
  bindO (arr' 96 x65) fun x70 =>
  letO (IntKind.i64.wrap (p3 + 96)) fun x79 =>
  bindO (sub' p2 p3 x79) fun x81 =>
  bindO (arr' 96 x81) fun x86 =>
  letO (decide ((x70 : Arr 96 Int) = x86)) fun x95 =>
  some (x95, 0)))

/-- orangebox/orangeboxref1.Same -/
def F_ref1_Same (p0 : List Int) (p1 : Int) (p2 : List Int) (p3 : Int) : Option (Bool × Int) :=
  bindO (F_ref1_Place p0 p1 96) fun x20 =>
  letO (decide (x20 ≠ 0)) fun x25 =>
  iteB x25
  (some (false, x20))
  (bindO (F_ref1_Place p2 p3 96) fun x43 =>
  letO (decide (x43 ≠ 0)) fun x48 =>
  iteB x48
  (some (false, x43))
  (letO (IntKind.i64.wrap (p1 + 96)) fun x55 =>
  bindO (sub' p0 p1 x55) fun x57 =>
  letO (str' x57) fun x62 =>
  letO (IntKind.i64.wrap (p3 + 96)) fun x64 =>
  bindO (sub' p2 p3 x64) fun x66 =>
  letO (str' x66) fun x71 =>
  letO (decide ((x62 : Str) = x71)) fun x73 =>
  some (x73, 0)))

def F_frame_Frames_L1 : (List Int) × (List (Arr 64 Int)) → Option ((List Int) × (List (Arr 64 Int))) := loopO fun k262 ⟨g253, g256⟩ =>
  letO (g253.length : Int) fun x276 =>
  letO (decide (96 ≤ x276)) fun x281 =>
  iteB x281
  (bindO (sub' g253 0 96) fun x285 =>
  bindO (arr' 96 x285) fun x290 =>
  bindO (F_frame_load (some x290)) fun x301 =>
  letO ([x301] : List (Arr 64 Int)) fun _ =>
  bindO (app' 128 g256 ([x301] : List (Arr 64 Int))) fun x310 =>
  bindO (sub' g253 96 (g253.length : Int)) fun x314 =>
  k262 (x314, x310))
  (some (g253, g256))
/-- orangebox/frame.Frames -/
def F_frame_Frames (p0 : List Int) : Option ((List (Arr 64 Int)) × Int) :=
  bindO (F_frame_Frames_L1 (p0, [])) fun ⟨g129, g132⟩ =>
  letO (g129.length : Int) fun x320 =>
  some (g132, x320)

def F_ref1_Frames_L1 : (List Int) × (List (Arr 64 Int)) → Option ((List Int) × (List (Arr 64 Int))) := loopO fun k260 ⟨g251, g254⟩ =>
  letO (g251.length : Int) fun x274 =>
  letO (decide (96 ≤ x274)) fun x279 =>
  iteB x279
  (bindO (F_ref1_frame g251) fun x298 =>
  letO ([x298] : List (Arr 64 Int)) fun _ =>
  bindO (app' 128 g254 ([x298] : List (Arr 64 Int))) fun x307 =>
  bindO (sub' g251 96 (g251.length : Int)) fun x311 =>
  k260 (x311, x307))
  (some (g251, g254))
/-- orangebox/orangeboxref1.Frames -/
def F_ref1_Frames (p0 : List Int) : Option ((List (Arr 64 Int)) × Int) :=
  bindO (F_ref1_Frames_L1 (p0, [])) fun ⟨g128, g131⟩ =>
  letO (g128.length : Int) fun x317 =>
  some (g131, x317)

def F_slices_Equal___api_Frame_api_Frame__L1 (p0 : List (Arr 64 Int)) (p1 : List (Arr 64 Int)) (k201 : Unit → Option Bool) (x204 : Int) : Int → Option Bool := loopO fun k364 g360 =>
  letO (decide (g360 < x204)) fun x368 =>
  iteB x368
  (bindO (at' p0 g360) fun x411 =>
  bindO (at' p1 g360) fun x423 =>
  letO (!decide ((x411 : Arr 64 Int) = x423)) fun x435 =>
  iteB x435
  (some false)
  (letO (IntKind.i64.wrap (g360 + 1)) fun x440 =>
  k364 x440))
  (k201 ())
/-- slices.Equal[[]orangebox/api.Frame,orangebox/api.Frame] -/
def F_slices_Equal___api_Frame_api_Frame_ (p0 : List (Arr 64 Int)) (p1 : List (Arr 64 Int)) : Option Bool :=
  letO (p0.length : Int) fun x23 =>
  letO (p1.length : Int) fun x28 =>
  letO (decide (x23 ≠ x28)) fun x33 =>
  iteB x33
  (some false)
  (joinO (fun _ =>
  some true) fun k201 =>
  letO (p0.length : Int) fun x204 =>
  F_slices_Equal___api_Frame_api_Frame__L1 p0 p1 k201 x204 0)

def F_frame_GetSecond_L1 (p0 : List Int) (p1 : Int) : Int × (Arr 8 (Arr 64 Int)) → Option (Arr 8 (Arr 64 Int)) := loopO fun k276 ⟨g271, g272⟩ =>
  letO (decide (g271 < 8)) fun x280 =>
  iteB x280
  (letO (IntKind.i64.wrap (g271 * 96)) fun x311 =>
  letO (IntKind.i64.wrap (p1 + x311)) fun x313 =>
  bindO (F_frame_inPlace p0 x313) fun ⟨x315, x316⟩ =>
  bindO (F_frame_load x315) fun x323 =>
  bindO (at' g272.l g271) fun x327 =>
  letO (Arr.set g272 g271 x323) fun x329 =>
  letO (IntKind.i64.wrap (g271 + 1)) fun x332 =>
  k276 (x332, x329))
  (some g272)
/-- orangebox/frame.GetSecond -/
def F_frame_GetSecond (p0 : List Int) (p1 : Int) : Option ((Arr 8 (Arr 64 Int)) × Int) :=
  bindO (F_frame_checkPlace p0 p1 768) fun x26 =>
  letO (decide (x26 ≠ 0)) fun x31 =>
  iteB x31
  (some ((Arr.rep 8 (Arr.rep 64 0 : Arr 64 Int) : Arr 8 (Arr 64 Int)), x26))
  (bindO (F_frame_GetSecond_L1 p0 p1 (0, (Arr.rep 8 (Arr.rep 64 0 : Arr 64 Int) : Arr 8 (Arr 64 Int)))) fun g155 =>
  some (g155, 0))

def F_ref1_GetSecond_L1 (p0 : List Int) (p1 : Int) : Int × (Arr 8 (Arr 64 Int)) → Option (Arr 8 (Arr 64 Int)) := loopO fun k252 ⟨g247, g248⟩ =>
  letO (decide (g247 < 8)) fun x256 =>
  iteB x256
  (letO (IntKind.i64.wrap (g247 * 96)) fun x283 =>
  letO (IntKind.i64.wrap (p1 + x283)) fun x285 =>
  bindO (sub' p0 x285 (p0.length : Int)) fun x287 =>
  bindO (F_ref1_frame x287) fun x293 =>
  bindO (at' g248.l g247) fun x297 =>
  letO (Arr.set g248 g247 x293) fun x299 =>
  letO (IntKind.i64.wrap (g247 + 1)) fun x302 =>
  k252 (x302, x299))
  (some g248)
/-- orangebox/orangeboxref1.GetSecond -/
def F_ref1_GetSecond (p0 : List Int) (p1 : Int) : Option ((Arr 8 (Arr 64 Int)) × Int) :=
  bindO (F_ref1_Place p0 p1 768) fun x26 =>
  letO (decide (x26 ≠ 0)) fun x31 =>
  iteB x31
  (some ((Arr.rep 8 (Arr.rep 64 0 : Arr 64 Int) : Arr 8 (Arr 64 Int)), x26))
  (bindO (F_ref1_GetSecond_L1 p0 p1 (0, (Arr.rep 8 (Arr.rep 64 0 : Arr 64 Int) : Arr 8 (Arr 64 Int)))) fun g143 =>
  some (g143, 0))

/-- bytes.Equal -/
def F_bytes_Equal (p0 : List Int) (p1 : List Int) : Option Bool :=
  letO (str' p0) fun x7 =>
  letO (str' p1) fun x9 =>
  letO (decide ((x7 : Str) = x9)) fun x11 =>
  some x11

/-- orangebox/orangeboxlaw1.FrameFromBytesMatchesSpec -/
def F_law1_FrameFromBytesMatchesSpec (p0 : List Int) (p1 : Int) (p2 : List Int) (p3 : Int) : Option Bool :=
  bindO (F_slices_Clone___byte_byte_ p0) fun x8 =>
  bindO (F_frame_FromBytes p0) fun ⟨x16, x17⟩ =>
  bindO (F_ref1_FromBytes p0) fun ⟨x27, x28⟩ =>
  bindO (letO (!decide ((x16 : Arr 64 Int) = x27)) fun x55 =>
  iteB x55
  (some true)
  (letO (decide (x17 ≠ x28)) fun x58 =>
  some x58)) fun g52 =>
  iteB g52
  (some false)
  (bindO (F_frame_Get p0 p1) fun ⟨x64, x65⟩ =>
  bindO (F_ref1_Get p0 p1) fun ⟨x72, x73⟩ =>
  bindO (letO (!decide ((x64 : Arr 64 Int) = x72)) fun x97 =>
  iteB x97
  (some true)
  (letO (decide (x65 ≠ x73)) fun x100 =>
  some x100)) fun g94 =>
  iteB g94
  (some false)
  (bindO (F_frame_WordAt p0 p1 p3) fun ⟨x106, x107⟩ =>
  bindO (F_ref1_WordAt p0 p1 p3) fun ⟨x113, x114⟩ =>
  bindO (letO (decide (x106 ≠ x113)) fun x137 =>
  iteB x137
  (some true)
  (letO (decide (x107 ≠ x114)) fun x140 =>
  some x140)) fun g134 =>
  iteB g134
  (some false)
  (bindO (F_frame_Same p0 p1 p2 p3) fun ⟨x146, x147⟩ =>
  bindO (F_ref1_Same p0 p1 p2 p3) fun ⟨x153, x154⟩ =>
  bindO (letO (!(x146 == x153)) fun x177 =>
  iteB x177
  (some true)
  (letO (decide (x147 ≠ x154)) fun x180 =>
  some x180)) fun g174 =>
  iteB g174
  (some false)
  (bindO (F_frame_Frames p0) fun ⟨x185, x186⟩ =>
  bindO (F_ref1_Frames p0) fun ⟨x193, x194⟩ =>
  bindO (bindO (F_slices_Equal___api_Frame_api_Frame_ x185 x193) fun x230 =>
  letO (!x230) fun x234 =>
  iteB x234
  (some true)
  (letO (decide (x186 ≠ x194)) fun x237 =>
  some x237)) fun g226 =>
  iteB g226
  (some false)
  (bindO (F_frame_GetSecond p0 p1) fun ⟨x243, x244⟩ =>
  bindO (F_ref1_GetSecond p0 p1) fun ⟨x254, x255⟩ =>
  bindO (letO (decide ((x243 : Arr 8 (Arr 64 Int)) = x254)) fun x283 =>
  iteB x283
  (letO (decide (x244 = x255)) fun x286 =>
  iteB x286
  (bindO (F_bytes_Equal p0 x8) fun x290 =>
  iteB x290
  (bindO (X_framed) fun x296 =>
  some x296)
  (some false))
  (some false))
  (some false)) fun g280 =>
  some g280)))))
end Go.Lf
