/- Walks: what each function computes, for every argument; no condition but those that stand in the statements. -/
import Derived.Test.YtbjhondbheijiaaGreatDoorRows
import Derived.Test.YtbjhondbheijiaaGreatDoorYP
import Derived.Test.YtbjhondbheijiaaGreatDoorXYc
namespace Go.Proofs.YtbjhondbheijiaaGreatDoor.L
open Go.RowKit Go.OB Go.Lf
theorem u2 : Tryz.prog.underlying 2 = some (.int .i64) := Tryz.underlying2
theorem u3 : Tryz.prog.underlying 3 = some (.int .i64) := Tryz.underlying3
theorem u4 : Tryz.prog.underlying 4 = some .bool := Tryz.underlying4
theorem u5 : Tryz.prog.underlying 5 = some (.int .u8) := Tryz.underlying5
theorem u9 : Tryz.prog.underlying 9 = some .string := Tryz.underlying9
theorem u22 : Tryz.prog.underlying 22 = some (.slice 70) := Tryz.underlying22
theorem u23 : Tryz.prog.underlying 23 = some (.slice 9) := Tryz.underlying23
theorem u24 : Tryz.prog.underlying 24 = some (.slice 103) := Tryz.underlying24
theorem u33 : Tryz.prog.underlying 33 = some (.slice 3) := Tryz.underlying33
theorem u38 : Tryz.prog.underlying 38 = some (.slice 44) := Tryz.underlying38
theorem u41 : Tryz.prog.underlying 41 = some (.slice 22) := Tryz.underlying41
theorem u51 : Tryz.prog.underlying 51 = some (.int .u64) := Tryz.underlying51
theorem u58 : Tryz.prog.underlying 58 = some (.slice 33) := Tryz.underlying58
theorem u65 : Tryz.prog.underlying 65 = some (.slice 62) := Tryz.underlying65
theorem u68 : Tryz.prog.underlying 68 = some (.slice 78) := Tryz.underlying68
theorem u74 : Tryz.prog.underlying 74 = some (.slice 109) := Tryz.underlying74
theorem u79 : Tryz.prog.underlying 79 = some (.pointer 78) := Tryz.underlying79
theorem u92 : Tryz.prog.underlying 92 = some (.slice 5) := Tryz.underlying92
theorem u111 : Tryz.prog.underlying 111 = some (.int .u64) := Tryz.underlying111
theorem sz3 : Sz Tryz.prog 3 1 := by unfold Sz; kernel_rfl
theorem sz9 : Sz Tryz.prog 9 1 := by unfold Sz; kernel_rfl
theorem sz22 : Sz Tryz.prog 22 1 := by unfold Sz; kernel_rfl
theorem sz26 : Sz Tryz.prog 26 5 := by unfold Sz; kernel_rfl
theorem sz28 : Sz Tryz.prog 28 2 := by unfold Sz; kernel_rfl
theorem sz33 : Sz Tryz.prog 33 1 := by unfold Sz; kernel_rfl
theorem sz44 : Sz Tryz.prog 44 3 := by unfold Sz; kernel_rfl
theorem sz53 : Sz Tryz.prog 53 3 := by unfold Sz; kernel_rfl
theorem sz62 : Sz Tryz.prog 62 4 := by unfold Sz; kernel_rfl
theorem sz68 : Sz Tryz.prog 68 1 := by unfold Sz; kernel_rfl
theorem sz70 : Sz Tryz.prog 70 6 := by unfold Sz; kernel_rfl
theorem sz74 : Sz Tryz.prog 74 1 := by unfold Sz; kernel_rfl
theorem sz76 : Sz Tryz.prog 76 2 := by unfold Sz; kernel_rfl
theorem sz78 : Sz Tryz.prog 78 4 := by unfold Sz; kernel_rfl
theorem sz92 : Sz Tryz.prog 92 1 := by unfold Sz; kernel_rfl
theorem sz103 : Sz Tryz.prog 103 2 := by unfold Sz; kernel_rfl
theorem sz109 : Sz Tryz.prog 109 3 := by unfold Sz; kernel_rfl
theorem one3 : OneC Tryz.prog 3 := by unfold OneC; kernel_rfl
theorem one4 : OneC Tryz.prog 4 := by unfold OneC; kernel_rfl
theorem one9 : OneC Tryz.prog 9 := by unfold OneC; kernel_rfl
theorem one22 : OneC Tryz.prog 22 := by unfold OneC; kernel_rfl
theorem one23 : OneC Tryz.prog 23 := by unfold OneC; kernel_rfl
theorem one24 : OneC Tryz.prog 24 := by unfold OneC; kernel_rfl
theorem one33 : OneC Tryz.prog 33 := by unfold OneC; kernel_rfl
theorem one51 : OneC Tryz.prog 51 := by unfold OneC; kernel_rfl
theorem one68 : OneC Tryz.prog 68 := by unfold OneC; kernel_rfl
theorem one74 : OneC Tryz.prog 74 := by unfold OneC; kernel_rfl
theorem one92 : OneC Tryz.prog 92 := by unfold OneC; kernel_rfl
theorem agg26 : Agg Tryz.prog 26 := by unfold Agg; kernel_rfl
theorem agg28 : Agg Tryz.prog 28 := by unfold Agg; kernel_rfl
theorem agg44 : Agg Tryz.prog 44 := by unfold Agg; kernel_rfl
theorem agg53 : Agg Tryz.prog 53 := by unfold Agg; kernel_rfl
theorem agg62 : Agg Tryz.prog 62 := by unfold Agg; kernel_rfl
theorem agg70 : Agg Tryz.prog 70 := by unfold Agg; kernel_rfl
theorem agg76 : Agg Tryz.prog 76 := by unfold Agg; kernel_rfl
theorem agg78 : Agg Tryz.prog 78 := by unfold Agg; kernel_rfl
theorem agg103 : Agg Tryz.prog 103 := by unfold Agg; kernel_rfl
theorem agg109 : Agg Tryz.prog 109 := by unfold Agg; kernel_rfl
theorem zero28 : Go.OB.Zero Tryz.prog 28 ([.int .i64 0, .int .i64 0]) := by unfold Go.OB.Zero; kernel_rfl
theorem zero44 : Go.OB.Zero Tryz.prog 44 ([.slice none 0 0, .slice none 0 0, .int .i64 0]) := by unfold Go.OB.Zero; kernel_rfl
theorem zero53 : Go.OB.Zero Tryz.prog 53 ([.bool false, .int .u64 0, .int .u64 0]) := by unfold Go.OB.Zero; kernel_rfl
theorem zero62 : Go.OB.Zero Tryz.prog 62 ([.string (bs []), .bool false, .int .i64 0, .slice none 0 0]) := by unfold Go.OB.Zero; kernel_rfl
theorem zero70 : Go.OB.Zero Tryz.prog 70 ([.string (bs []), .string (bs []), .int .i64 0, .int .i64 0, .int .i64 0, .slice none 0 0]) := by unfold Go.OB.Zero; kernel_rfl
theorem zero76 : Go.OB.Zero Tryz.prog 76 ([.int .i64 0, .slice none 0 0]) := by unfold Go.OB.Zero; kernel_rfl
theorem zero78 : Go.OB.Zero Tryz.prog 78 ([.string (bs []), .int .i64 0, .slice none 0 0, .int .i64 0]) := by unfold Go.OB.Zero; kernel_rfl
theorem zero103 : Go.OB.Zero Tryz.prog 103 ([.string (bs []), .int .i64 0]) := by unfold Go.OB.Zero; kernel_rfl
theorem zero109 : Go.OB.Zero Tryz.prog 109 ([.int .i64 0, .int .i64 0, .int .i64 0]) := by unfold Go.OB.Zero; kernel_rfl
theorem el3 : El Tryz.prog 3 1 8 ([.int .i64 0]) := ⟨by kernel_rfl, by kernel_rfl, by kernel_rfl, by decide, by decide⟩
theorem el5 : El Tryz.prog 5 1 1 ([.int .u8 0]) := ⟨by kernel_rfl, by kernel_rfl, by kernel_rfl, by decide, by decide⟩
theorem el9 : El Tryz.prog 9 1 16 ([.string (bs [])]) := ⟨by kernel_rfl, by kernel_rfl, by kernel_rfl, by decide, by decide⟩
theorem el22 : El Tryz.prog 22 1 24 ([.slice none 0 0]) := ⟨by kernel_rfl, by kernel_rfl, by kernel_rfl, by decide, by decide⟩
theorem el33 : El Tryz.prog 33 1 24 ([.slice none 0 0]) := ⟨by kernel_rfl, by kernel_rfl, by kernel_rfl, by decide, by decide⟩
theorem el44 : El Tryz.prog 44 3 56 ([.slice none 0 0, .slice none 0 0, .int .i64 0]) := ⟨by kernel_rfl, by kernel_rfl, by kernel_rfl, by decide, by decide⟩
theorem el62 : El Tryz.prog 62 4 56 ([.string (bs []), .bool false, .int .i64 0, .slice none 0 0]) := ⟨by kernel_rfl, by kernel_rfl, by kernel_rfl, by decide, by decide⟩
theorem el78 : El Tryz.prog 78 4 56 ([.string (bs []), .int .i64 0, .slice none 0 0, .int .i64 0]) := ⟨by kernel_rfl, by kernel_rfl, by kernel_rfl, by decide, by decide⟩
theorem el109 : El Tryz.prog 109 3 24 ([.int .i64 0, .int .i64 0, .int .i64 0]) := ⟨by kernel_rfl, by kernel_rfl, by kernel_rfl, by decide, by decide⟩
theorem bz28 : Tryz.prog.built 28 [] = some ([.int .i64 0, .int .i64 0]).toArray := by kernel_rfl
theorem bz62 : Tryz.prog.built 62 [] = some ([.string (bs []), .bool false, .int .i64 0, .slice none 0 0]).toArray := by kernel_rfl
theorem bz94 : Tryz.prog.built 94 [] = some ([.slice none 0 0]).toArray := by kernel_rfl
theorem bt28_0_1 (a0 : Int) (a1 : Int) : Tryz.prog.built 28 [(0, .int .i64 a0), (1, .int .i64 a1)] = some [.int .i64 a0, .int .i64 a1].toArray := by kernel_rfl
theorem bt28_1 (a0 : Int) : Tryz.prog.built 28 [(1, .int .i64 a0)] = some [.int .i64 0, .int .i64 a0].toArray := by kernel_rfl
theorem bt53_0_1_2 (a0 : Bool) (a1 : Int) (a2 : Int) : Tryz.prog.built 53 [(0, .bool a0), (1, .int .u64 a1), (2, .int .u64 a2)] = some [.bool a0, .int .u64 a1, .int .u64 a2].toArray := by kernel_rfl
theorem bt62_0_2_3 (a0 : Str) (a1 : Int) (a2a : Option Addr) (a2n a2c : Nat) : Tryz.prog.built 62 [(0, .string (bs a0)), (2, .int .i64 a1), (3, .slice a2a a2n a2c)] = some [.string (bs a0), .bool false, .int .i64 a1, .slice a2a a2n a2c].toArray := by kernel_rfl
theorem bt76_0 (a0 : Int) : Tryz.prog.built 76 [(0, .int .i64 a0)] = some [.int .i64 a0, .slice none 0 0].toArray := by kernel_rfl
theorem fa26_0 {ρ : Env} {w : World} {d : Option Tmp} {x : Operand} {ty : TypeId} {pos : String} {af : Array Edge} {g : Option (Nat × Bool)} {b o : Nat} (hx : ev ρ x = .pointer (some ⟨b, o, none⟩)) : Do Tryz.prog ⟨d, .fieldAddr 26 x 0, ty, pos, af, g⟩ ρ w (.pointer (some ⟨b, o + 0, none⟩)) w := yZ (n := 1) (m := 0) (by kernel_rfl) (by decide) hx
theorem fa26_1 {ρ : Env} {w : World} {d : Option Tmp} {x : Operand} {ty : TypeId} {pos : String} {af : Array Edge} {g : Option (Nat × Bool)} {b o : Nat} (hx : ev ρ x = .pointer (some ⟨b, o, none⟩)) : Do Tryz.prog ⟨d, .fieldAddr 26 x 1, ty, pos, af, g⟩ ρ w (.pointer (some ⟨b, o + 1, none⟩)) w := yZ (n := 1) (m := 1) (by kernel_rfl) (by decide) hx
theorem fa26_2 {ρ : Env} {w : World} {d : Option Tmp} {x : Operand} {ty : TypeId} {pos : String} {af : Array Edge} {g : Option (Nat × Bool)} {b o : Nat} (hx : ev ρ x = .pointer (some ⟨b, o, none⟩)) : Do Tryz.prog ⟨d, .fieldAddr 26 x 2, ty, pos, af, g⟩ ρ w (.pointer (some ⟨b, o + 2, none⟩)) w := yZ (n := 1) (m := 2) (by kernel_rfl) (by decide) hx
theorem fa26_3 {ρ : Env} {w : World} {d : Option Tmp} {x : Operand} {ty : TypeId} {pos : String} {af : Array Edge} {g : Option (Nat × Bool)} {b o : Nat} (hx : ev ρ x = .pointer (some ⟨b, o, none⟩)) : Do Tryz.prog ⟨d, .fieldAddr 26 x 3, ty, pos, af, g⟩ ρ w (.pointer (some ⟨b, o + 3, none⟩)) w := yZ (n := 1) (m := 3) (by kernel_rfl) (by decide) hx
theorem fa26_4 {ρ : Env} {w : World} {d : Option Tmp} {x : Operand} {ty : TypeId} {pos : String} {af : Array Edge} {g : Option (Nat × Bool)} {b o : Nat} (hx : ev ρ x = .pointer (some ⟨b, o, none⟩)) : Do Tryz.prog ⟨d, .fieldAddr 26 x 4, ty, pos, af, g⟩ ρ w (.pointer (some ⟨b, o + 4, none⟩)) w := yZ (n := 1) (m := 4) (by kernel_rfl) (by decide) hx
theorem fa28_0 {ρ : Env} {w : World} {d : Option Tmp} {x : Operand} {ty : TypeId} {pos : String} {af : Array Edge} {g : Option (Nat × Bool)} {b o : Nat} (hx : ev ρ x = .pointer (some ⟨b, o, none⟩)) : Do Tryz.prog ⟨d, .fieldAddr 28 x 0, ty, pos, af, g⟩ ρ w (.pointer (some ⟨b, o + 0, none⟩)) w := yZ (n := 1) (m := 0) (by kernel_rfl) (by decide) hx
theorem fa28_1 {ρ : Env} {w : World} {d : Option Tmp} {x : Operand} {ty : TypeId} {pos : String} {af : Array Edge} {g : Option (Nat × Bool)} {b o : Nat} (hx : ev ρ x = .pointer (some ⟨b, o, none⟩)) : Do Tryz.prog ⟨d, .fieldAddr 28 x 1, ty, pos, af, g⟩ ρ w (.pointer (some ⟨b, o + 1, none⟩)) w := yZ (n := 1) (m := 1) (by kernel_rfl) (by decide) hx
theorem fa44_0 {ρ : Env} {w : World} {d : Option Tmp} {x : Operand} {ty : TypeId} {pos : String} {af : Array Edge} {g : Option (Nat × Bool)} {b o : Nat} (hx : ev ρ x = .pointer (some ⟨b, o, none⟩)) : Do Tryz.prog ⟨d, .fieldAddr 44 x 0, ty, pos, af, g⟩ ρ w (.pointer (some ⟨b, o + 0, none⟩)) w := yZ (n := 1) (m := 0) (by kernel_rfl) (by decide) hx
theorem fa44_1 {ρ : Env} {w : World} {d : Option Tmp} {x : Operand} {ty : TypeId} {pos : String} {af : Array Edge} {g : Option (Nat × Bool)} {b o : Nat} (hx : ev ρ x = .pointer (some ⟨b, o, none⟩)) : Do Tryz.prog ⟨d, .fieldAddr 44 x 1, ty, pos, af, g⟩ ρ w (.pointer (some ⟨b, o + 1, none⟩)) w := yZ (n := 1) (m := 1) (by kernel_rfl) (by decide) hx
theorem fa53_0 {ρ : Env} {w : World} {d : Option Tmp} {x : Operand} {ty : TypeId} {pos : String} {af : Array Edge} {g : Option (Nat × Bool)} {b o : Nat} (hx : ev ρ x = .pointer (some ⟨b, o, none⟩)) : Do Tryz.prog ⟨d, .fieldAddr 53 x 0, ty, pos, af, g⟩ ρ w (.pointer (some ⟨b, o + 0, none⟩)) w := yZ (n := 1) (m := 0) (by kernel_rfl) (by decide) hx
theorem fa53_1 {ρ : Env} {w : World} {d : Option Tmp} {x : Operand} {ty : TypeId} {pos : String} {af : Array Edge} {g : Option (Nat × Bool)} {b o : Nat} (hx : ev ρ x = .pointer (some ⟨b, o, none⟩)) : Do Tryz.prog ⟨d, .fieldAddr 53 x 1, ty, pos, af, g⟩ ρ w (.pointer (some ⟨b, o + 1, none⟩)) w := yZ (n := 1) (m := 1) (by kernel_rfl) (by decide) hx
theorem fa53_2 {ρ : Env} {w : World} {d : Option Tmp} {x : Operand} {ty : TypeId} {pos : String} {af : Array Edge} {g : Option (Nat × Bool)} {b o : Nat} (hx : ev ρ x = .pointer (some ⟨b, o, none⟩)) : Do Tryz.prog ⟨d, .fieldAddr 53 x 2, ty, pos, af, g⟩ ρ w (.pointer (some ⟨b, o + 2, none⟩)) w := yZ (n := 1) (m := 2) (by kernel_rfl) (by decide) hx
theorem fa62_0 {ρ : Env} {w : World} {d : Option Tmp} {x : Operand} {ty : TypeId} {pos : String} {af : Array Edge} {g : Option (Nat × Bool)} {b o : Nat} (hx : ev ρ x = .pointer (some ⟨b, o, none⟩)) : Do Tryz.prog ⟨d, .fieldAddr 62 x 0, ty, pos, af, g⟩ ρ w (.pointer (some ⟨b, o + 0, none⟩)) w := yZ (n := 1) (m := 0) (by kernel_rfl) (by decide) hx
theorem fa62_1 {ρ : Env} {w : World} {d : Option Tmp} {x : Operand} {ty : TypeId} {pos : String} {af : Array Edge} {g : Option (Nat × Bool)} {b o : Nat} (hx : ev ρ x = .pointer (some ⟨b, o, none⟩)) : Do Tryz.prog ⟨d, .fieldAddr 62 x 1, ty, pos, af, g⟩ ρ w (.pointer (some ⟨b, o + 1, none⟩)) w := yZ (n := 1) (m := 1) (by kernel_rfl) (by decide) hx
theorem fa62_2 {ρ : Env} {w : World} {d : Option Tmp} {x : Operand} {ty : TypeId} {pos : String} {af : Array Edge} {g : Option (Nat × Bool)} {b o : Nat} (hx : ev ρ x = .pointer (some ⟨b, o, none⟩)) : Do Tryz.prog ⟨d, .fieldAddr 62 x 2, ty, pos, af, g⟩ ρ w (.pointer (some ⟨b, o + 2, none⟩)) w := yZ (n := 1) (m := 2) (by kernel_rfl) (by decide) hx
theorem fa62_3 {ρ : Env} {w : World} {d : Option Tmp} {x : Operand} {ty : TypeId} {pos : String} {af : Array Edge} {g : Option (Nat × Bool)} {b o : Nat} (hx : ev ρ x = .pointer (some ⟨b, o, none⟩)) : Do Tryz.prog ⟨d, .fieldAddr 62 x 3, ty, pos, af, g⟩ ρ w (.pointer (some ⟨b, o + 3, none⟩)) w := yZ (n := 1) (m := 3) (by kernel_rfl) (by decide) hx
theorem fa70_0 {ρ : Env} {w : World} {d : Option Tmp} {x : Operand} {ty : TypeId} {pos : String} {af : Array Edge} {g : Option (Nat × Bool)} {b o : Nat} (hx : ev ρ x = .pointer (some ⟨b, o, none⟩)) : Do Tryz.prog ⟨d, .fieldAddr 70 x 0, ty, pos, af, g⟩ ρ w (.pointer (some ⟨b, o + 0, none⟩)) w := yZ (n := 1) (m := 0) (by kernel_rfl) (by decide) hx
theorem fa70_1 {ρ : Env} {w : World} {d : Option Tmp} {x : Operand} {ty : TypeId} {pos : String} {af : Array Edge} {g : Option (Nat × Bool)} {b o : Nat} (hx : ev ρ x = .pointer (some ⟨b, o, none⟩)) : Do Tryz.prog ⟨d, .fieldAddr 70 x 1, ty, pos, af, g⟩ ρ w (.pointer (some ⟨b, o + 1, none⟩)) w := yZ (n := 1) (m := 1) (by kernel_rfl) (by decide) hx
theorem fa70_2 {ρ : Env} {w : World} {d : Option Tmp} {x : Operand} {ty : TypeId} {pos : String} {af : Array Edge} {g : Option (Nat × Bool)} {b o : Nat} (hx : ev ρ x = .pointer (some ⟨b, o, none⟩)) : Do Tryz.prog ⟨d, .fieldAddr 70 x 2, ty, pos, af, g⟩ ρ w (.pointer (some ⟨b, o + 2, none⟩)) w := yZ (n := 1) (m := 2) (by kernel_rfl) (by decide) hx
theorem fa70_3 {ρ : Env} {w : World} {d : Option Tmp} {x : Operand} {ty : TypeId} {pos : String} {af : Array Edge} {g : Option (Nat × Bool)} {b o : Nat} (hx : ev ρ x = .pointer (some ⟨b, o, none⟩)) : Do Tryz.prog ⟨d, .fieldAddr 70 x 3, ty, pos, af, g⟩ ρ w (.pointer (some ⟨b, o + 3, none⟩)) w := yZ (n := 1) (m := 3) (by kernel_rfl) (by decide) hx
theorem fa70_4 {ρ : Env} {w : World} {d : Option Tmp} {x : Operand} {ty : TypeId} {pos : String} {af : Array Edge} {g : Option (Nat × Bool)} {b o : Nat} (hx : ev ρ x = .pointer (some ⟨b, o, none⟩)) : Do Tryz.prog ⟨d, .fieldAddr 70 x 4, ty, pos, af, g⟩ ρ w (.pointer (some ⟨b, o + 4, none⟩)) w := yZ (n := 1) (m := 4) (by kernel_rfl) (by decide) hx
theorem fa70_5 {ρ : Env} {w : World} {d : Option Tmp} {x : Operand} {ty : TypeId} {pos : String} {af : Array Edge} {g : Option (Nat × Bool)} {b o : Nat} (hx : ev ρ x = .pointer (some ⟨b, o, none⟩)) : Do Tryz.prog ⟨d, .fieldAddr 70 x 5, ty, pos, af, g⟩ ρ w (.pointer (some ⟨b, o + 5, none⟩)) w := yZ (n := 1) (m := 5) (by kernel_rfl) (by decide) hx
theorem fa76_0 {ρ : Env} {w : World} {d : Option Tmp} {x : Operand} {ty : TypeId} {pos : String} {af : Array Edge} {g : Option (Nat × Bool)} {b o : Nat} (hx : ev ρ x = .pointer (some ⟨b, o, none⟩)) : Do Tryz.prog ⟨d, .fieldAddr 76 x 0, ty, pos, af, g⟩ ρ w (.pointer (some ⟨b, o + 0, none⟩)) w := yZ (n := 1) (m := 0) (by kernel_rfl) (by decide) hx
theorem fa76_1 {ρ : Env} {w : World} {d : Option Tmp} {x : Operand} {ty : TypeId} {pos : String} {af : Array Edge} {g : Option (Nat × Bool)} {b o : Nat} (hx : ev ρ x = .pointer (some ⟨b, o, none⟩)) : Do Tryz.prog ⟨d, .fieldAddr 76 x 1, ty, pos, af, g⟩ ρ w (.pointer (some ⟨b, o + 1, none⟩)) w := yZ (n := 1) (m := 1) (by kernel_rfl) (by decide) hx
theorem fa78_0 {ρ : Env} {w : World} {d : Option Tmp} {x : Operand} {ty : TypeId} {pos : String} {af : Array Edge} {g : Option (Nat × Bool)} {b o : Nat} (hx : ev ρ x = .pointer (some ⟨b, o, none⟩)) : Do Tryz.prog ⟨d, .fieldAddr 78 x 0, ty, pos, af, g⟩ ρ w (.pointer (some ⟨b, o + 0, none⟩)) w := yZ (n := 1) (m := 0) (by kernel_rfl) (by decide) hx
theorem fa78_1 {ρ : Env} {w : World} {d : Option Tmp} {x : Operand} {ty : TypeId} {pos : String} {af : Array Edge} {g : Option (Nat × Bool)} {b o : Nat} (hx : ev ρ x = .pointer (some ⟨b, o, none⟩)) : Do Tryz.prog ⟨d, .fieldAddr 78 x 1, ty, pos, af, g⟩ ρ w (.pointer (some ⟨b, o + 1, none⟩)) w := yZ (n := 2) (m := 1) (by kernel_rfl) (by decide) hx
theorem fa78_2 {ρ : Env} {w : World} {d : Option Tmp} {x : Operand} {ty : TypeId} {pos : String} {af : Array Edge} {g : Option (Nat × Bool)} {b o : Nat} (hx : ev ρ x = .pointer (some ⟨b, o, none⟩)) : Do Tryz.prog ⟨d, .fieldAddr 78 x 2, ty, pos, af, g⟩ ρ w (.pointer (some ⟨b, o + 3, none⟩)) w := yZ (n := 1) (m := 3) (by kernel_rfl) (by decide) hx
theorem fa94_0 {ρ : Env} {w : World} {d : Option Tmp} {x : Operand} {ty : TypeId} {pos : String} {af : Array Edge} {g : Option (Nat × Bool)} {b o : Nat} (hx : ev ρ x = .pointer (some ⟨b, o, none⟩)) : Do Tryz.prog ⟨d, .fieldAddr 94 x 0, ty, pos, af, g⟩ ρ w (.pointer (some ⟨b, o + 0, none⟩)) w := yZ (n := 1) (m := 0) (by kernel_rfl) (by decide) hx
theorem fa103_0 {ρ : Env} {w : World} {d : Option Tmp} {x : Operand} {ty : TypeId} {pos : String} {af : Array Edge} {g : Option (Nat × Bool)} {b o : Nat} (hx : ev ρ x = .pointer (some ⟨b, o, none⟩)) : Do Tryz.prog ⟨d, .fieldAddr 103 x 0, ty, pos, af, g⟩ ρ w (.pointer (some ⟨b, o + 0, none⟩)) w := yZ (n := 1) (m := 0) (by kernel_rfl) (by decide) hx
theorem fa103_1 {ρ : Env} {w : World} {d : Option Tmp} {x : Operand} {ty : TypeId} {pos : String} {af : Array Edge} {g : Option (Nat × Bool)} {b o : Nat} (hx : ev ρ x = .pointer (some ⟨b, o, none⟩)) : Do Tryz.prog ⟨d, .fieldAddr 103 x 1, ty, pos, af, g⟩ ρ w (.pointer (some ⟨b, o + 1, none⟩)) w := yZ (n := 1) (m := 1) (by kernel_rfl) (by decide) hx
theorem fa109_0 {ρ : Env} {w : World} {d : Option Tmp} {x : Operand} {ty : TypeId} {pos : String} {af : Array Edge} {g : Option (Nat × Bool)} {b o : Nat} (hx : ev ρ x = .pointer (some ⟨b, o, none⟩)) : Do Tryz.prog ⟨d, .fieldAddr 109 x 0, ty, pos, af, g⟩ ρ w (.pointer (some ⟨b, o + 0, none⟩)) w := yZ (n := 1) (m := 0) (by kernel_rfl) (by decide) hx
theorem fa109_1 {ρ : Env} {w : World} {d : Option Tmp} {x : Operand} {ty : TypeId} {pos : String} {af : Array Edge} {g : Option (Nat × Bool)} {b o : Nat} (hx : ev ρ x = .pointer (some ⟨b, o, none⟩)) : Do Tryz.prog ⟨d, .fieldAddr 109 x 1, ty, pos, af, g⟩ ρ w (.pointer (some ⟨b, o + 1, none⟩)) w := yZ (n := 1) (m := 1) (by kernel_rfl) (by decide) hx
theorem fa109_2 {ρ : Env} {w : World} {d : Option Tmp} {x : Operand} {ty : TypeId} {pos : String} {af : Array Edge} {g : Option (Nat × Bool)} {b o : Nat} (hx : ev ρ x = .pointer (some ⟨b, o, none⟩)) : Do Tryz.prog ⟨d, .fieldAddr 109 x 2, ty, pos, af, g⟩ ρ w (.pointer (some ⟨b, o + 2, none⟩)) w := yZ (n := 1) (m := 2) (by kernel_rfl) (by decide) hx
theorem eqf3 : EqF Tryz.prog 3 (Fl.int .i64) 1 := EqF.int Tryz.underlying3
theorem eqf28 : EqF Tryz.prog 28 flRatio 2 := EqF.struct (k := 1) (fun x y h => by cases x; cases y; simp_all) Tryz.underlying28 (by kernel_rfl) (by unfold Sz; kernel_rfl) ((EqFs.cons rfl (by decide) (eqf3.up (by decide)) (EqFs.one rfl (by decide) (eqf3.up (by decide)))))
theorem en4 : Go.OB.Enters Tryz.prog 4 := ⟨_, Tryz.func4, rfl, by kernel_rfl⟩
theorem en5 : Go.OB.Enters Tryz.prog 5 := ⟨_, Tryz.func5, rfl, by kernel_rfl⟩
theorem en6 : Go.OB.Enters Tryz.prog 6 := ⟨_, Tryz.func6, rfl, by kernel_rfl⟩
theorem en7 : Go.OB.Enters Tryz.prog 7 := ⟨_, Tryz.func7, rfl, by kernel_rfl⟩
theorem en8 : Go.OB.Enters Tryz.prog 8 := ⟨_, Tryz.func8, rfl, by kernel_rfl⟩
theorem en9 : Go.OB.Enters Tryz.prog 9 := ⟨_, Tryz.func9, rfl, by kernel_rfl⟩
theorem en10 : Go.OB.Enters Tryz.prog 10 := ⟨_, Tryz.func10, rfl, by kernel_rfl⟩
theorem en11 : Go.OB.Enters Tryz.prog 11 := ⟨_, Tryz.func11, rfl, by kernel_rfl⟩
theorem en12 : Go.OB.Enters Tryz.prog 12 := ⟨_, Tryz.func12, rfl, by kernel_rfl⟩
theorem en13 : Go.OB.Enters Tryz.prog 13 := ⟨_, Tryz.func13, rfl, by kernel_rfl⟩
theorem en14 : Go.OB.Enters Tryz.prog 14 := ⟨_, Tryz.func14, rfl, by kernel_rfl⟩
theorem en15 : Go.OB.Enters Tryz.prog 15 := ⟨_, Tryz.func15, rfl, by kernel_rfl⟩
theorem en16 : Go.OB.Enters Tryz.prog 16 := ⟨_, Tryz.func16, rfl, by kernel_rfl⟩
theorem en17 : Go.OB.Enters Tryz.prog 17 := ⟨_, Tryz.func17, rfl, by kernel_rfl⟩
theorem en18 : Go.OB.Enters Tryz.prog 18 := ⟨_, Tryz.func18, rfl, by kernel_rfl⟩
theorem en19 : Go.OB.Enters Tryz.prog 19 := ⟨_, Tryz.func19, rfl, by kernel_rfl⟩
theorem en20 : Go.OB.Enters Tryz.prog 20 := ⟨_, Tryz.func20, rfl, by kernel_rfl⟩
theorem en21 : Go.OB.Enters Tryz.prog 21 := ⟨_, Tryz.func21, rfl, by kernel_rfl⟩
theorem en22 : Go.OB.Enters Tryz.prog 22 := ⟨_, Tryz.func22, rfl, by kernel_rfl⟩
theorem en23 : Go.OB.Enters Tryz.prog 23 := ⟨_, Tryz.func23, rfl, by kernel_rfl⟩
theorem en24 : Go.OB.Enters Tryz.prog 24 := ⟨_, Tryz.func24, rfl, by kernel_rfl⟩
theorem en25 : Go.OB.Enters Tryz.prog 25 := ⟨_, Tryz.func25, rfl, by kernel_rfl⟩
theorem en26 : Go.OB.Enters Tryz.prog 26 := ⟨_, Tryz.func26, rfl, by kernel_rfl⟩
theorem en27 : Go.OB.Enters Tryz.prog 27 := ⟨_, Tryz.func27, rfl, by kernel_rfl⟩
theorem en28 : Go.OB.Enters Tryz.prog 28 := ⟨_, Tryz.func28, rfl, by kernel_rfl⟩
theorem en29 : Go.OB.Enters Tryz.prog 29 := ⟨_, Tryz.func29, rfl, by kernel_rfl⟩
theorem en30 : Go.OB.Enters Tryz.prog 30 := ⟨_, Tryz.func30, rfl, by kernel_rfl⟩
theorem en31 : Go.OB.Enters Tryz.prog 31 := ⟨_, Tryz.func31, rfl, by kernel_rfl⟩
theorem en32 : Go.OB.Enters Tryz.prog 32 := ⟨_, Tryz.func32, rfl, by kernel_rfl⟩
theorem en33 : Go.OB.Enters Tryz.prog 33 := ⟨_, Tryz.func33, rfl, by kernel_rfl⟩
theorem en34 : Go.OB.Enters Tryz.prog 34 := ⟨_, Tryz.func34, rfl, by kernel_rfl⟩
theorem en35 : Go.OB.Enters Tryz.prog 35 := ⟨_, Tryz.func35, rfl, by kernel_rfl⟩
theorem en36 : Go.OB.Enters Tryz.prog 36 := ⟨_, Tryz.func36, rfl, by kernel_rfl⟩
theorem en37 : Go.OB.Enters Tryz.prog 37 := ⟨_, Tryz.func37, rfl, by kernel_rfl⟩
theorem en38 : Go.OB.Enters Tryz.prog 38 := ⟨_, Tryz.func38, rfl, by kernel_rfl⟩
theorem en39 : Go.OB.Enters Tryz.prog 39 := ⟨_, Tryz.func39, rfl, by kernel_rfl⟩
theorem en40 : Go.OB.Enters Tryz.prog 40 := ⟨_, Tryz.func40, rfl, by kernel_rfl⟩
theorem en43 : Go.OB.Enters Tryz.prog 43 := ⟨_, Tryz.func43, rfl, by kernel_rfl⟩
theorem en44 : Go.OB.Enters Tryz.prog 44 := ⟨_, Tryz.func44, rfl, by kernel_rfl⟩
theorem en45 : Go.OB.Enters Tryz.prog 45 := ⟨_, Tryz.func45, rfl, by kernel_rfl⟩
theorem en46 : Go.OB.Enters Tryz.prog 46 := ⟨_, Tryz.func46, rfl, by kernel_rfl⟩
theorem en47 : Go.OB.Enters Tryz.prog 47 := ⟨_, Tryz.func47, rfl, by kernel_rfl⟩
theorem en48 : Go.OB.Enters Tryz.prog 48 := ⟨_, Tryz.func48, rfl, by kernel_rfl⟩
theorem en49 : Go.OB.Enters Tryz.prog 49 := ⟨_, Tryz.func49, rfl, by kernel_rfl⟩
theorem en50 : Go.OB.Enters Tryz.prog 50 := ⟨_, Tryz.func50, rfl, by kernel_rfl⟩
theorem en51 : Go.OB.Enters Tryz.prog 51 := ⟨_, Tryz.func51, rfl, by kernel_rfl⟩
theorem en52 : Go.OB.Enters Tryz.prog 52 := ⟨_, Tryz.func52, rfl, by kernel_rfl⟩
theorem en53 : Go.OB.Enters Tryz.prog 53 := ⟨_, Tryz.func53, rfl, by kernel_rfl⟩
theorem en54 : Go.OB.Enters Tryz.prog 54 := ⟨_, Tryz.func54, rfl, by kernel_rfl⟩
theorem en55 : Go.OB.Enters Tryz.prog 55 := ⟨_, Tryz.func55, rfl, by kernel_rfl⟩
theorem en56 : Go.OB.Enters Tryz.prog 56 := ⟨_, Tryz.func56, rfl, by kernel_rfl⟩
theorem en57 : Go.OB.Enters Tryz.prog 57 := ⟨_, Tryz.func57, rfl, by kernel_rfl⟩
theorem en58 : Go.OB.Enters Tryz.prog 58 := ⟨_, Tryz.func58, rfl, by kernel_rfl⟩
theorem en59 : Go.OB.Enters Tryz.prog 59 := ⟨_, Tryz.func59, rfl, by kernel_rfl⟩
theorem en60 : Go.OB.Enters Tryz.prog 60 := ⟨_, Tryz.func60, rfl, by kernel_rfl⟩
theorem en61 : Go.OB.Enters Tryz.prog 61 := ⟨_, Tryz.func61, rfl, by kernel_rfl⟩
theorem en62 : Go.OB.Enters Tryz.prog 62 := ⟨_, Tryz.func62, rfl, by kernel_rfl⟩
theorem en63 : Go.OB.Enters Tryz.prog 63 := ⟨_, Tryz.func63, rfl, by kernel_rfl⟩
theorem en64 : Go.OB.Enters Tryz.prog 64 := ⟨_, Tryz.func64, rfl, by kernel_rfl⟩
theorem en65 : Go.OB.Enters Tryz.prog 65 := ⟨_, Tryz.func65, rfl, by kernel_rfl⟩
theorem en66 : Go.OB.Enters Tryz.prog 66 := ⟨_, Tryz.func66, rfl, by kernel_rfl⟩
theorem en69 : Go.OB.Enters Tryz.prog 69 := ⟨_, Tryz.func69, rfl, by kernel_rfl⟩
theorem en70 : Go.OB.Enters Tryz.prog 70 := ⟨_, Tryz.func70, rfl, by kernel_rfl⟩
theorem en71 : Go.OB.Enters Tryz.prog 71 := ⟨_, Tryz.func71, rfl, by kernel_rfl⟩
theorem en72 : Go.OB.Enters Tryz.prog 72 := ⟨_, Tryz.func72, rfl, by kernel_rfl⟩
theorem en73 : Go.OB.Enters Tryz.prog 73 := ⟨_, Tryz.func73, rfl, by kernel_rfl⟩
theorem en74 : Go.OB.Enters Tryz.prog 74 := ⟨_, Tryz.func74, rfl, by kernel_rfl⟩
theorem en75 : Go.OB.Enters Tryz.prog 75 := ⟨_, Tryz.func75, rfl, by kernel_rfl⟩
theorem en76 : Go.OB.Enters Tryz.prog 76 := ⟨_, Tryz.func76, rfl, by kernel_rfl⟩
theorem en77 : Go.OB.Enters Tryz.prog 77 := ⟨_, Tryz.func77, rfl, by kernel_rfl⟩
theorem en78 : Go.OB.Enters Tryz.prog 78 := ⟨_, Tryz.func78, rfl, by kernel_rfl⟩
theorem en79 : Go.OB.Enters Tryz.prog 79 := ⟨_, Tryz.func79, rfl, by kernel_rfl⟩
theorem en80 : Go.OB.Enters Tryz.prog 80 := ⟨_, Tryz.func80, rfl, by kernel_rfl⟩
theorem en81 : Go.OB.Enters Tryz.prog 81 := ⟨_, Tryz.func81, rfl, by kernel_rfl⟩
theorem en82 : Go.OB.Enters Tryz.prog 82 := ⟨_, Tryz.func82, rfl, by kernel_rfl⟩
theorem en83 : Go.OB.Enters Tryz.prog 83 := ⟨_, Tryz.func83, rfl, by kernel_rfl⟩
theorem en84 : Go.OB.Enters Tryz.prog 84 := ⟨_, Tryz.func84, rfl, by kernel_rfl⟩
theorem en85 : Go.OB.Enters Tryz.prog 85 := ⟨_, Tryz.func85, rfl, by kernel_rfl⟩
theorem en96 : Go.OB.Enters Tryz.prog 96 := ⟨_, Tryz.func96, rfl, by kernel_rfl⟩
theorem en97 : Go.OB.Enters Tryz.prog 97 := ⟨_, Tryz.func97, rfl, by kernel_rfl⟩
theorem en98 : Go.OB.Enters Tryz.prog 98 := ⟨_, Tryz.func98, rfl, by kernel_rfl⟩
theorem en99 : Go.OB.Enters Tryz.prog 99 := ⟨_, Tryz.func99, rfl, by kernel_rfl⟩
theorem en100 : Go.OB.Enters Tryz.prog 100 := ⟨_, Tryz.func100, rfl, by kernel_rfl⟩
theorem en101 : Go.OB.Enters Tryz.prog 101 := ⟨_, Tryz.func101, rfl, by kernel_rfl⟩
theorem en102 : Go.OB.Enters Tryz.prog 102 := ⟨_, Tryz.func102, rfl, by kernel_rfl⟩
theorem en109 : Go.OB.Enters Tryz.prog 109 := ⟨_, Tryz.func109, rfl, by kernel_rfl⟩
theorem en110 : Go.OB.Enters Tryz.prog 110 := ⟨_, Tryz.func110, rfl, by kernel_rfl⟩
theorem en111 : Go.OB.Enters Tryz.prog 111 := ⟨_, Tryz.func111, rfl, by kernel_rfl⟩
theorem en112 : Go.OB.Enters Tryz.prog 112 := ⟨_, Tryz.func112, rfl, by kernel_rfl⟩
theorem en113 : Go.OB.Enters Tryz.prog 113 := ⟨_, Tryz.func113, rfl, by kernel_rfl⟩
theorem en115 : Go.OB.Enters Tryz.prog 115 := ⟨_, Tryz.func115, rfl, by kernel_rfl⟩
theorem en116 : Go.OB.Enters Tryz.prog 116 := ⟨_, Tryz.func116, rfl, by kernel_rfl⟩
theorem mixed : Tryz.prog.follows .mixedOrders = true := by kernel_rfl
end Go.Proofs.YtbjhondbheijiaaGreatDoor.L
namespace Go.Proofs.YtbjhondbheijiaaGreatDoor.L
open Go.RowKit Go.OB Go.Lf
/- orangebox/event.within -/
set_option maxHeartbeats 4000000 in
theorem F_event_within_w (p0 : Int) (p1 : Int) (p2 : Int) (r : Bool) (hF : F_event_within p0 p1 p2 = some r) (O S : List Nat) (w : World) (H : Hd O w w S []) :
  Calls Tryz.prog 77 ([.int .i64 p0, .int .i64 p1, .int .i64 p2] : List Value).toArray w fun e w' => e = .returned (.bool r) ∧ Hd O w w' S [] := by
 unfold F_event_within at hF
 refine yB 15 Tryz.func77 rfl rfl rfl ?_
 refine zD fun K1 hK1 => ?_
 refine zC ?_
 refine zA rfl rfl (zF (v := .bool false) rfl) ?_
 refine (zI (zB (hK1 _ _ ?_)))
 obtain ⟨g7, hF, hK9⟩ := zJ hF
 refine yL [6, 7, 8, 9, 10, 11, 12, 13, 14] (fun (g : Unit) => [(6, .bool g7)]) (fun g wl => Hd O w wl S []) ?_ ?_
 ·skip
  refine zC ?_
  refine zA rfl rfl (zG (v := .int .i64 p0) rfl) ?_
  refine zA rfl rfl (zG (v := .int .i64 p1) rfl) ?_
  obtain ⟨x10, e11, hF⟩ := zH hF
  refine zA rfl rfl (zT (Do_geq (a := p0) (b := p1) rfl rfl) (congrArg Value.bool e11)) ?_
  refine yO (b := x10) rfl rfl rfl (fun c12 => ?_) (fun c12 => ?_)
  ·have hF := zW c12 hF
   refine zA rfl rfl (zG (v := .int .i64 p0) rfl) ?_
   refine zA rfl rfl (zG (v := .int .i64 p2) rfl) ?_
   obtain ⟨x13, e14, hF⟩ := zH hF
   refine zA rfl rfl (zT (Do_leq (a := p0) (b := p2) rfl rfl) (congrArg Value.bool e14)) ?_
   refine zA rfl rfl (yI (v := .bool x13) rfl rfl) ?_
   refine zA rfl rfl (zF (v := .bool x13) rfl) ?_
   have hR := Option.some.inj hF
   subst hR
   refine (zI (zB (And.intro ?_ ?_)))
   ·repeat' (first | with_reducible exact zN | refine zV rfl ?_ | refine zO rfl rfl ?_)
   exact ⟨(), (zK rfl zQ), H.pick [] (by decide)⟩
  have hF := zX c12 hF
  refine zM rfl rfl ?_
  refine zM rfl rfl ?_
  refine zM rfl rfl ?_
  refine zA rfl rfl (yH (v := .bool false) rfl rfl) ?_
  refine zA rfl rfl (zF (v := .bool false) rfl) ?_
  have hR := Option.some.inj hF
  subst hR
  refine (zI (zB (And.intro ?_ ?_)))
  ·repeat' (first | with_reducible exact zN | refine zV rfl ?_ | refine zO rfl rfl ?_)
  exact ⟨(), (zK rfl zQ), H.pick [] (by decide)⟩
 rintro _ ρ w8 H
 have hF := hK9
 have hR := Option.some.inj hF
 subst hR
 refine (yG (post1 (v1 := .bool g7) rfl rfl ?_))
 exact ⟨rfl, H.pick [] (by decide)⟩
end Go.Proofs.YtbjhondbheijiaaGreatDoor.L
namespace Go.Proofs.YtbjhondbheijiaaGreatDoor.L
open Go.RowKit Go.OB Go.Lf
/- orangebox/event.isWord -/
set_option maxHeartbeats 4000000 in
theorem F_event_isWord_w (p0 : Str) (r : Bool) (hF : F_event_isWord p0 = some r) (O S : List Nat) (w : World) (H : Hd O w w S []) :
  Calls Tryz.prog 78 ([.string (bs p0)] : List Value).toArray w fun e w' => e = .returned (.bool r) ∧ Hd O w w' S [] := by
 unfold F_event_isWord at hF
 refine yB 21 Tryz.func78 rfl rfl rfl ?_
 refine zD fun K1 hK1 => ?_
 refine zC ?_
 refine zA rfl rfl (zF (v := .bool false) rfl) ?_
 refine (zI (zB (hK1 _ _ ?_)))
 refine zD fun K70 hK70 => ?_
 refine zD fun K71 hK71 => ?_
 refine zC ?_
 refine zA rfl rfl (zG (v := .string (bs p0)) rfl) ?_
 refine (zI (zB (hK71 _ _ ?_)))
 refine yK ?_
 obtain ⟨g134, hF, hK136⟩ := zJ hF
 refine yL [4, 5, 6, 7, 8, 9, 10, 11, 12, 13, 14, 15, 16, 17, 18, 19, 20] (fun (g : Unit) => [(4, .bool g134)]) (fun g wl => Hd O w wl S []) ?_ ?_
 ·skip
  refine zD fun K137 hK137 => ?_
  refine zC ?_
  obtain ⟨x138, e139, hF⟩ := zH hF
  refine zA rfl rfl (zT (Do_eqls (s1 := p0) (s2 := [112, 104, 97, 115, 101]) rfl rfl) (congrArg Value.bool e139)) ?_
  refine zA rfl rfl (zF (v := .bool x138) rfl) ?_
  refine (zI (zB (hK137 _ _ ?_)))
  refine yF (b := x138) rfl (fun c140 => ?_) (fun c140 => ?_)
  ·have hF := zW c140 hF
   have hR := Option.some.inj hF
   subst hR
   refine (yA (zB (And.intro ?_ ?_)))
   ·repeat' (first | with_reducible exact zN | refine zV rfl ?_ | refine zO rfl rfl ?_)
   exact ⟨(), (zK rfl zQ), H.pick [] (by decide)⟩
  have hF := zX c140 hF
  refine zD fun K141 hK141 => ?_
  refine zC ?_
  obtain ⟨x142, e143, hF⟩ := zH hF
  refine zA rfl rfl (zT (Do_eqls (s1 := p0) (s2 := [109, 111, 118, 101]) rfl rfl) (congrArg Value.bool e143)) ?_
  refine zA rfl rfl (zF (v := .bool x142) rfl) ?_
  refine (zI (zB (hK141 _ _ ?_)))
  refine yF (b := x142) rfl (fun c144 => ?_) (fun c144 => ?_)
  ·have hF := zW c144 hF
   have hR := Option.some.inj hF
   subst hR
   refine (yA (zB (And.intro ?_ ?_)))
   ·repeat' (first | with_reducible exact zN | refine zV rfl ?_ | refine zO rfl rfl ?_)
   exact ⟨(), (zK rfl zQ), H.pick [] (by decide)⟩
  have hF := zX c144 hF
  refine zD fun K145 hK145 => ?_
  refine zC ?_
  obtain ⟨x146, e147, hF⟩ := zH hF
  refine zA rfl rfl (zT (Do_eqls (s1 := p0) (s2 := [114, 117, 108, 101]) rfl rfl) (congrArg Value.bool e147)) ?_
  refine zA rfl rfl (zF (v := .bool x146) rfl) ?_
  refine (zI (zB (hK145 _ _ ?_)))
  refine yF (b := x146) rfl (fun c148 => ?_) (fun c148 => ?_)
  ·have hF := zW c148 hF
   have hR := Option.some.inj hF
   subst hR
   refine (yA (zB (And.intro ?_ ?_)))
   ·repeat' (first | with_reducible exact zN | refine zV rfl ?_ | refine zO rfl rfl ?_)
   exact ⟨(), (zK rfl zQ), H.pick [] (by decide)⟩
  have hF := zX c148 hF
  refine zD fun K149 hK149 => ?_
  refine zC ?_
  obtain ⟨x150, e151, hF⟩ := zH hF
  refine zA rfl rfl (zT (Do_eqls (s1 := p0) (s2 := [105, 102]) rfl rfl) (congrArg Value.bool e151)) ?_
  refine zA rfl rfl (zF (v := .bool x150) rfl) ?_
  refine (zI (zB (hK149 _ _ ?_)))
  refine yF (b := x150) rfl (fun c152 => ?_) (fun c152 => ?_)
  ·have hF := zW c152 hF
   have hR := Option.some.inj hF
   subst hR
   refine (yA (zB (And.intro ?_ ?_)))
   ·repeat' (first | with_reducible exact zN | refine zV rfl ?_ | refine zO rfl rfl ?_)
   exact ⟨(), (zK rfl zQ), H.pick [] (by decide)⟩
  have hF := zX c152 hF
  refine zD fun K153 hK153 => ?_
  refine zC ?_
  obtain ⟨x154, e155, hF⟩ := zH hF
  refine zA rfl rfl (zT (Do_eqls (s1 := p0) (s2 := [111, 114]) rfl rfl) (congrArg Value.bool e155)) ?_
  refine zA rfl rfl (zF (v := .bool x154) rfl) ?_
  refine (zI (zB (hK153 _ _ ?_)))
  refine yF (b := x154) rfl (fun c156 => ?_) (fun c156 => ?_)
  ·have hF := zW c156 hF
   have hR := Option.some.inj hF
   subst hR
   refine (yA (zB (And.intro ?_ ?_)))
   ·repeat' (first | with_reducible exact zN | refine zV rfl ?_ | refine zO rfl rfl ?_)
   exact ⟨(), (zK rfl zQ), H.pick [] (by decide)⟩
  have hF := zX c156 hF
  refine zD fun K157 hK157 => ?_
  refine zC ?_
  obtain ⟨x158, e159, hF⟩ := zH hF
  refine zA rfl rfl (zT (Do_eqls (s1 := p0) (s2 := [97, 110, 100]) rfl rfl) (congrArg Value.bool e159)) ?_
  refine zA rfl rfl (zF (v := .bool x158) rfl) ?_
  refine (zI (zB (hK157 _ _ ?_)))
  refine yF (b := x158) rfl (fun c160 => ?_) (fun c160 => ?_)
  ·have hF := zW c160 hF
   have hR := Option.some.inj hF
   subst hR
   refine (yA (zB (And.intro ?_ ?_)))
   ·repeat' (first | with_reducible exact zN | refine zV rfl ?_ | refine zO rfl rfl ?_)
   exact ⟨(), (zK rfl zQ), H.pick [] (by decide)⟩
  have hF := zX c160 hF
  refine zD fun K161 hK161 => ?_
  refine zC ?_
  obtain ⟨x162, e163, hF⟩ := zH hF
  refine zA rfl rfl (zT (Do_eqls (s1 := p0) (s2 := [116, 114, 117, 101]) rfl rfl) (congrArg Value.bool e163)) ?_
  refine zA rfl rfl (zF (v := .bool x162) rfl) ?_
  refine (zI (zB (hK161 _ _ ?_)))
  refine yF (b := x162) rfl (fun c164 => ?_) (fun c164 => ?_)
  ·have hF := zW c164 hF
   have hR := Option.some.inj hF
   subst hR
   refine (yA (zB (And.intro ?_ ?_)))
   ·repeat' (first | with_reducible exact zN | refine zV rfl ?_ | refine zO rfl rfl ?_)
   exact ⟨(), (zK rfl zQ), H.pick [] (by decide)⟩
  have hF := zX c164 hF
  refine zD fun K165 hK165 => ?_
  refine zC ?_
  obtain ⟨x166, e167, hF⟩ := zH hF
  refine zA rfl rfl (zT (Do_eqls (s1 := p0) (s2 := [102, 97, 108, 115, 101]) rfl rfl) (congrArg Value.bool e167)) ?_
  refine zA rfl rfl (zF (v := .bool x166) rfl) ?_
  refine (zI (zB (hK165 _ _ ?_)))
  refine yF (b := x166) rfl (fun c168 => ?_) (fun c168 => ?_)
  ·have hF := zW c168 hF
   have hR := Option.some.inj hF
   subst hR
   refine (yA (zB (And.intro ?_ ?_)))
   ·repeat' (first | with_reducible exact zN | refine zV rfl ?_ | refine zO rfl rfl ?_)
   exact ⟨(), (zK rfl zQ), H.pick [] (by decide)⟩
  have hF := zX c168 hF
  refine zD fun K169 hK169 => ?_
  refine zC ?_
  obtain ⟨x170, e171, hF⟩ := zH hF
  refine zA rfl rfl (zT (Do_eqls (s1 := p0) (s2 := [115, 116, 101, 97, 100, 121]) rfl rfl) (congrArg Value.bool e171)) ?_
  refine zA rfl rfl (zF (v := .bool x170) rfl) ?_
  refine (zI (zB (hK169 _ _ ?_)))
  refine yF (b := x170) rfl (fun c172 => ?_) (fun c172 => ?_)
  ·have hF := zW c172 hF
   have hR := Option.some.inj hF
   subst hR
   refine (yA (zB (And.intro ?_ ?_)))
   ·repeat' (first | with_reducible exact zN | refine zV rfl ?_ | refine zO rfl rfl ?_)
   exact ⟨(), (zK rfl zQ), H.pick [] (by decide)⟩
  have hF := zX c172 hF
  refine zD fun K173 hK173 => ?_
  refine zC ?_
  obtain ⟨x174, e175, hF⟩ := zH hF
  refine zA rfl rfl (zT (Do_eqls (s1 := p0) (s2 := [110, 111, 116]) rfl rfl) (congrArg Value.bool e175)) ?_
  refine zA rfl rfl (zF (v := .bool x174) rfl) ?_
  refine (zI (zB (hK173 _ _ ?_)))
  refine yF (b := x174) rfl (fun c176 => ?_) (fun c176 => ?_)
  ·have hF := zW c176 hF
   have hR := Option.some.inj hF
   subst hR
   refine (yA (zB (And.intro ?_ ?_)))
   ·repeat' (first | with_reducible exact zN | refine zV rfl ?_ | refine zO rfl rfl ?_)
   exact ⟨(), (zK rfl zQ), H.pick [] (by decide)⟩
  have hF := zX c176 hF
  refine zD fun K177 hK177 => ?_
  refine zC ?_
  obtain ⟨x178, e179, hF⟩ := zH hF
  refine zA rfl rfl (zT (Do_eqls (s1 := p0) (s2 := [102, 111, 114]) rfl rfl) (congrArg Value.bool e179)) ?_
  refine zA rfl rfl (zF (v := .bool x178) rfl) ?_
  refine (zI (zB (hK177 _ _ ?_)))
  refine yF (b := x178) rfl (fun c180 => ?_) (fun c180 => ?_)
  ·have hF := zW c180 hF
   have hR := Option.some.inj hF
   subst hR
   refine (yA (zB (And.intro ?_ ?_)))
   ·repeat' (first | with_reducible exact zN | refine zV rfl ?_ | refine zO rfl rfl ?_)
   exact ⟨(), (zK rfl zQ), H.pick [] (by decide)⟩
  have hF := zX c180 hF
  refine zD fun K181 hK181 => ?_
  refine zC ?_
  obtain ⟨x182, e183, hF⟩ := zH hF
  refine zA rfl rfl (zT (Do_eqls (s1 := p0) (s2 := [119, 105, 116, 104, 105, 110]) rfl rfl) (congrArg Value.bool e183)) ?_
  refine zA rfl rfl (zF (v := .bool x182) rfl) ?_
  refine (zI (zB (hK181 _ _ ?_)))
  refine yF (b := x182) rfl (fun c184 => ?_) (fun c184 => ?_)
  ·have hF := zW c184 hF
   have hR := Option.some.inj hF
   subst hR
   refine (yA (zB (And.intro ?_ ?_)))
   ·repeat' (first | with_reducible exact zN | refine zV rfl ?_ | refine zO rfl rfl ?_)
   exact ⟨(), (zK rfl zQ), H.pick [] (by decide)⟩
  have hF := zX c184 hF
  refine zD fun K185 hK185 => ?_
  refine zC ?_
  obtain ⟨x186, e187, hF⟩ := zH hF
  refine zA rfl rfl (zT (Do_eqls (s1 := p0) (s2 := [99, 111, 117, 110, 116]) rfl rfl) (congrArg Value.bool e187)) ?_
  refine zA rfl rfl (zF (v := .bool x186) rfl) ?_
  refine (zI (zB (hK185 _ _ ?_)))
  refine yF (b := x186) rfl (fun c188 => ?_) (fun c188 => ?_)
  ·have hF := zW c188 hF
   have hR := Option.some.inj hF
   subst hR
   refine (yA (zB (And.intro ?_ ?_)))
   ·repeat' (first | with_reducible exact zN | refine zV rfl ?_ | refine zO rfl rfl ?_)
   exact ⟨(), (zK rfl zQ), H.pick [] (by decide)⟩
  have hF := zX c188 hF
  refine zD fun K189 hK189 => ?_
  refine zC ?_
  obtain ⟨x190, e191, hF⟩ := zH hF
  refine zA rfl rfl (zT (Do_eqls (s1 := p0) (s2 := [111, 102]) rfl rfl) (congrArg Value.bool e191)) ?_
  refine zA rfl rfl (zF (v := .bool x190) rfl) ?_
  refine (zI (zB (hK189 _ _ ?_)))
  refine yF (b := x190) rfl (fun c192 => ?_) (fun c192 => ?_)
  ·have hF := zW c192 hF
   have hR := Option.some.inj hF
   subst hR
   refine (yA (zB (And.intro ?_ ?_)))
   ·repeat' (first | with_reducible exact zN | refine zV rfl ?_ | refine zO rfl rfl ?_)
   exact ⟨(), (zK rfl zQ), H.pick [] (by decide)⟩
  have hF := zX c192 hF
  refine zD fun K193 hK193 => ?_
  refine zC ?_
  obtain ⟨x194, e195, hF⟩ := zH hF
  refine zA rfl rfl (zT (Do_eqls (s1 := p0) (s2 := [114, 105, 115, 101, 115]) rfl rfl) (congrArg Value.bool e195)) ?_
  refine zA rfl rfl (zF (v := .bool x194) rfl) ?_
  refine (zI (zB (hK193 _ _ ?_)))
  refine yF (b := x194) rfl (fun c196 => ?_) (fun c196 => ?_)
  ·have hF := zW c196 hF
   have hR := Option.some.inj hF
   subst hR
   refine (yA (zB (And.intro ?_ ?_)))
   ·repeat' (first | with_reducible exact zN | refine zV rfl ?_ | refine zO rfl rfl ?_)
   exact ⟨(), (zK rfl zQ), H.pick [] (by decide)⟩
  have hF := zX c196 hF
  refine zC ?_
  obtain ⟨x197, e198, hF⟩ := zH hF
  refine zA rfl rfl (zT (Do_eqls (s1 := p0) (s2 := [115, 105, 110, 99, 101]) rfl rfl) (congrArg Value.bool e198)) ?_
  refine zA rfl rfl (zF (v := .bool x197) rfl) ?_
  have hR := Option.some.inj hF
  subst hR
  refine (zI (zB (And.intro ?_ ?_)))
  ·repeat' (first | with_reducible exact zN | refine zV rfl ?_ | refine zO rfl rfl ?_)
  exact ⟨(), (zK rfl zQ), H.pick [] (by decide)⟩
 rintro _ ρ w135 H
 have hF := hK136
 refine yF (b := g134) rfl (fun c199 => ?_) (fun c199 => ?_)
 ·have hF := zW c199 hF
  refine zD fun K200 hK200 => ?_
  refine zC ?_
  refine zA rfl rfl (zF (v := .bool true) rfl) ?_
  refine (zI (zB (hK200 _ _ ?_)))
  have hR := Option.some.inj hF
  subst hR
  refine (yG (yM (zZ (post1 (v1 := .bool true) rfl rfl ?_))))
  exact ⟨rfl, H.pick [] (by decide)⟩
 have hF := zX c199 hF
 refine (yA (yU (zB (hK70 _ _ ?_))))
 refine zD fun K201 hK201 => ?_
 refine zC ?_
 refine zA rfl rfl (zF (v := .bool false) rfl) ?_
 refine (zI (zB (hK201 _ _ ?_)))
 have hR := Option.some.inj hF
 subst hR
 refine (yG (post1 (v1 := .bool false) rfl rfl ?_))
 exact ⟨rfl, H.pick [] (by decide)⟩
end Go.Proofs.YtbjhondbheijiaaGreatDoor.L
namespace Go.Proofs.YtbjhondbheijiaaGreatDoor.L
open Go.RowKit Go.OB Go.Lf
/- orangebox/event.nameByte -/
set_option maxHeartbeats 4000000 in
theorem F_event_nameByte_w (p0 : Int) (r : Bool) (hF : F_event_nameByte p0 = some r) (O S : List Nat) (w : World) (H : Hd O w w S []) :
  Calls Tryz.prog 79 ([.int .u8 p0] : List Value).toArray w fun e w' => e = .returned (.bool r) ∧ Hd O w w' S [] := by
 unfold F_event_nameByte at hF
 refine yB 21 Tryz.func79 rfl rfl rfl ?_
 refine zD fun K1 hK1 => ?_
 refine zC ?_
 refine zA rfl rfl (zF (v := .bool false) rfl) ?_
 refine (zI (zB (hK1 _ _ ?_)))
 obtain ⟨g28, hF, hK30⟩ := zJ hF
 refine yL [2, 3, 4, 5, 6, 7, 8, 9, 10, 11, 12, 13, 14, 15, 16, 17, 18, 19, 20] (fun (g : Unit) => [(2, .bool g28)]) (fun g wl => Hd O w wl S []) ?_ ?_
 ·skip
  refine zC ?_
  refine zA rfl rfl (zG (v := .int .u8 p0) rfl) ?_
  obtain ⟨x31, e32, hF⟩ := zH hF
  refine zA rfl rfl (zT (Do_geq (a := p0) (b := 97) rfl rfl) (congrArg Value.bool e32)) ?_
  refine yO (b := x31) rfl rfl rfl (fun c33 => ?_) (fun c33 => ?_)
  ·have hF := zW c33 hF
   refine zA rfl rfl (zG (v := .int .u8 p0) rfl) ?_
   obtain ⟨x34, e35, hF⟩ := zH hF
   refine zA rfl rfl (zT (Do_leq (a := p0) (b := 122) rfl rfl) (congrArg Value.bool e35)) ?_
   refine zA rfl rfl (yI (v := .bool x34) rfl rfl) ?_
   refine yO (b := x34) rfl rfl rfl (fun c36 => ?_) (fun c36 => ?_)
   ·have hF := zW c36 hF
    refine zM rfl rfl ?_
    refine zM rfl rfl ?_
    refine zM rfl rfl ?_
    refine zM rfl rfl ?_
    refine zM rfl rfl ?_
    refine zM rfl rfl ?_
    refine zA rfl rfl (yI (v := .bool true) rfl rfl) ?_
    refine zA rfl rfl (zG (v := .bool true) rfl) ?_
    refine zM rfl rfl ?_
    refine zM rfl rfl ?_
    refine zA rfl rfl (yI (v := .bool true) rfl rfl) ?_
    refine zA rfl rfl (zF (v := .bool true) rfl) ?_
    have hR := Option.some.inj hF
    subst hR
    refine (zI (zB (And.intro ?_ ?_)))
    ·repeat' (first | with_reducible exact zN | refine zV rfl ?_ | refine zO rfl rfl ?_)
    exact ⟨(), (zK rfl zQ), H.pick [] (by decide)⟩
   have hF := zX c36 hF
   refine zA rfl rfl (zG (v := .int .u8 p0) rfl) ?_
   obtain ⟨x37, e38, hF⟩ := zH hF
   refine zA rfl rfl (zT (Do_geq (a := p0) (b := 48) rfl rfl) (congrArg Value.bool e38)) ?_
   refine yO (b := x37) rfl rfl rfl (fun c39 => ?_) (fun c39 => ?_)
   ·have hF := zW c39 hF
    refine zA rfl rfl (zG (v := .int .u8 p0) rfl) ?_
    obtain ⟨x40, e41, hF⟩ := zH hF
    refine zA rfl rfl (zT (Do_leq (a := p0) (b := 57) rfl rfl) (congrArg Value.bool e41)) ?_
    refine zA rfl rfl (yI (v := .bool x40) rfl rfl) ?_
    refine zA rfl rfl (yH (v := .bool x40) rfl rfl) ?_
    refine yO (b := x40) rfl rfl rfl (fun c42 => ?_) (fun c42 => ?_)
    ·have hF := zW c42 hF
     refine zM rfl rfl ?_
     refine zM rfl rfl ?_
     refine zA rfl rfl (yI (v := .bool true) rfl rfl) ?_
     refine zA rfl rfl (zF (v := .bool true) rfl) ?_
     have hR := Option.some.inj hF
     subst hR
     refine (zI (zB (And.intro ?_ ?_)))
     ·repeat' (first | with_reducible exact zN | refine zV rfl ?_ | refine zO rfl rfl ?_)
     exact ⟨(), (zK rfl zQ), H.pick [] (by decide)⟩
    have hF := zX c42 hF
    refine zA rfl rfl (zG (v := .int .u8 p0) rfl) ?_
    obtain ⟨x43, e44, hF⟩ := zH hF
    refine zA rfl rfl (zT (Do_eql (a := p0) (b := 45) rfl rfl) (congrArg Value.bool e44)) ?_
    refine zA rfl rfl (yH (v := .bool x43) rfl rfl) ?_
    refine zA rfl rfl (zF (v := .bool x43) rfl) ?_
    have hR := Option.some.inj hF
    subst hR
    refine (zI (zB (And.intro ?_ ?_)))
    ·repeat' (first | with_reducible exact zN | refine zV rfl ?_ | refine zO rfl rfl ?_)
    exact ⟨(), (zK rfl zQ), H.pick [] (by decide)⟩
   have hF := zX c39 hF
   refine zM rfl rfl ?_
   refine zM rfl rfl ?_
   refine zA rfl rfl (yH (v := .bool false) rfl rfl) ?_
   refine zA rfl rfl (yH (v := .bool false) rfl rfl) ?_
   refine zA rfl rfl (zG (v := .bool false) rfl) ?_
   refine zA rfl rfl (zG (v := .int .u8 p0) rfl) ?_
   obtain ⟨x45, e46, hF⟩ := zH hF
   refine zA rfl rfl (zT (Do_eql (a := p0) (b := 45) rfl rfl) (congrArg Value.bool e46)) ?_
   refine zA rfl rfl (yH (v := .bool x45) rfl rfl) ?_
   refine zA rfl rfl (zF (v := .bool x45) rfl) ?_
   have hR := Option.some.inj hF
   subst hR
   refine (zI (zB (And.intro ?_ ?_)))
   ·repeat' (first | with_reducible exact zN | refine zV rfl ?_ | refine zO rfl rfl ?_)
   exact ⟨(), (zK rfl zQ), H.pick [] (by decide)⟩
  have hF := zX c33 hF
  refine zM rfl rfl ?_
  refine zM rfl rfl ?_
  refine zA rfl rfl (yH (v := .bool false) rfl rfl) ?_
  refine zA rfl rfl (zG (v := .bool false) rfl) ?_
  refine zA rfl rfl (zG (v := .int .u8 p0) rfl) ?_
  obtain ⟨x47, e48, hF⟩ := zH hF
  refine zA rfl rfl (zT (Do_geq (a := p0) (b := 48) rfl rfl) (congrArg Value.bool e48)) ?_
  refine yO (b := x47) rfl rfl rfl (fun c49 => ?_) (fun c49 => ?_)
  ·have hF := zW c49 hF
   refine zA rfl rfl (zG (v := .int .u8 p0) rfl) ?_
   obtain ⟨x50, e51, hF⟩ := zH hF
   refine zA rfl rfl (zT (Do_leq (a := p0) (b := 57) rfl rfl) (congrArg Value.bool e51)) ?_
   refine zA rfl rfl (yI (v := .bool x50) rfl rfl) ?_
   refine zA rfl rfl (yH (v := .bool x50) rfl rfl) ?_
   refine yO (b := x50) rfl rfl rfl (fun c52 => ?_) (fun c52 => ?_)
   ·have hF := zW c52 hF
    refine zM rfl rfl ?_
    refine zM rfl rfl ?_
    refine zA rfl rfl (yI (v := .bool true) rfl rfl) ?_
    refine zA rfl rfl (zF (v := .bool true) rfl) ?_
    have hR := Option.some.inj hF
    subst hR
    refine (zI (zB (And.intro ?_ ?_)))
    ·repeat' (first | with_reducible exact zN | refine zV rfl ?_ | refine zO rfl rfl ?_)
    exact ⟨(), (zK rfl zQ), H.pick [] (by decide)⟩
   have hF := zX c52 hF
   refine zA rfl rfl (zG (v := .int .u8 p0) rfl) ?_
   obtain ⟨x53, e54, hF⟩ := zH hF
   refine zA rfl rfl (zT (Do_eql (a := p0) (b := 45) rfl rfl) (congrArg Value.bool e54)) ?_
   refine zA rfl rfl (yH (v := .bool x53) rfl rfl) ?_
   refine zA rfl rfl (zF (v := .bool x53) rfl) ?_
   have hR := Option.some.inj hF
   subst hR
   refine (zI (zB (And.intro ?_ ?_)))
   ·repeat' (first | with_reducible exact zN | refine zV rfl ?_ | refine zO rfl rfl ?_)
   exact ⟨(), (zK rfl zQ), H.pick [] (by decide)⟩
  have hF := zX c49 hF
  refine zM rfl rfl ?_
  refine zM rfl rfl ?_
  refine zA rfl rfl (yH (v := .bool false) rfl rfl) ?_
  refine zA rfl rfl (yH (v := .bool false) rfl rfl) ?_
  refine zA rfl rfl (zG (v := .bool false) rfl) ?_
  refine zA rfl rfl (zG (v := .int .u8 p0) rfl) ?_
  obtain ⟨x55, e56, hF⟩ := zH hF
  refine zA rfl rfl (zT (Do_eql (a := p0) (b := 45) rfl rfl) (congrArg Value.bool e56)) ?_
  refine zA rfl rfl (yH (v := .bool x55) rfl rfl) ?_
  refine zA rfl rfl (zF (v := .bool x55) rfl) ?_
  have hR := Option.some.inj hF
  subst hR
  refine (zI (zB (And.intro ?_ ?_)))
  ·repeat' (first | with_reducible exact zN | refine zV rfl ?_ | refine zO rfl rfl ?_)
  exact ⟨(), (zK rfl zQ), H.pick [] (by decide)⟩
 rintro _ ρ w29 H
 have hF := hK30
 have hR := Option.some.inj hF
 subst hR
 refine (yG (post1 (v1 := .bool g28) rfl rfl ?_))
 exact ⟨rfl, H.pick [] (by decide)⟩
end Go.Proofs.YtbjhondbheijiaaGreatDoor.L
namespace Go.Proofs.YtbjhondbheijiaaGreatDoor.L
open Go.RowKit Go.OB Go.Lf
/- orangebox/event.isName -/
set_option maxHeartbeats 4000000 in
theorem F_event_isName_w (p0 : Str) (r : Bool) (hF : F_event_isName p0 = some r) (O S : List Nat) (w : World) (H : Hd O w w S []) :
  Calls Tryz.prog 55 ([.string (bs p0)] : List Value).toArray w fun e w' => e = .returned (.bool r) ∧ Hd O w w' S [] := by
 unfold F_event_isName at hF
 refine yB 33 Tryz.func55 rfl rfl rfl ?_
 refine zD fun K1 hK1 => ?_
 refine zC ?_
 refine zA rfl rfl (zF (v := .bool false) rfl) ?_
 refine (zI (zB (hK1 _ _ ?_)))
 refine zD fun K32 hK32 => ?_
 obtain ⟨g58, hF, hK60⟩ := zJ hF
 refine yL [4, 5, 6, 7, 8, 9, 10, 11, 12, 13, 14, 15, 16, 17, 18, 19, 20, 21] (fun (g : Unit) => [(21, .bool g58)]) (fun g wl => Hd O w wl S []) ?_ ?_
 ·skip
  refine zC ?_
  refine zA rfl rfl (zG (v := .string (bs p0)) rfl) ?_
  obtain ⟨x61, e62, hF⟩ := zH hF
  refine zA rfl rfl (zT (Do_slen (s1 := p0) u9 rfl) (congrArg (Value.int .i64) e62)) ?_
  have H63 := H
  obtain ⟨x64, e65, hF⟩ := zJ hF
  refine yJ rfl rfl (yC en77 rfl) (F_event_within_w x61 1 30 _ e65 _ _ _ (H.enter [] [] (by decide) rfl)) ?_
  rintro _ w66 ⟨rfl, G67⟩
  have H := H63.step (G67.only : Only [] _ _)
  refine ⟨_, rfl, ?_⟩
  obtain ⟨x68, e69, hF⟩ := zH hF
  refine zA rfl rfl (zT (xY (p := x64) rfl) (congrArg Value.bool e69)) ?_
  refine yO (b := x68) rfl rfl rfl (fun c70 => ?_) (fun c70 => ?_)
  ·have hF := zW c70 hF
   refine zM rfl rfl ?_
   refine zM rfl rfl ?_
   refine zM rfl rfl ?_
   refine zA rfl rfl (yI (v := .bool true) rfl rfl) ?_
   refine zA rfl rfl (zG (v := .bool true) rfl) ?_
   refine zM rfl rfl ?_
   refine zM rfl rfl ?_
   refine zM rfl rfl ?_
   refine zA rfl rfl (yI (v := .bool true) rfl rfl) ?_
   refine zA rfl rfl (zG (v := .bool true) rfl) ?_
   refine zM rfl rfl ?_
   refine zM rfl rfl ?_
   refine zA rfl rfl (yI (v := .bool true) rfl rfl) ?_
   have hR := Option.some.inj hF
   subst hR
   refine (zI (zB (And.intro ?_ ?_)))
   ·repeat' (first | with_reducible exact zN | refine zV rfl ?_ | refine zO rfl rfl ?_)
   exact ⟨(), (zK rfl zQ), H.pick [] (by decide)⟩
  have hF := zX c70 hF
  refine zA rfl rfl (zG (v := .string (bs p0)) rfl) ?_
  obtain ⟨x71, e72, hF⟩ := zJ hF
  refine zA rfl rfl (Do_sidx (s1 := p0) (q := 0) u9 rfl rfl e72) ?_
  obtain ⟨x73, e74, hF⟩ := zH hF
  refine zA rfl rfl (zT (xK (a := x71) (b := 97) rfl rfl) (congrArg Value.bool e74)) ?_
  refine zA rfl rfl (yH (v := .bool x73) rfl rfl) ?_
  refine yO (b := x73) rfl rfl rfl (fun c75 => ?_) (fun c75 => ?_)
  ·have hF := zW c75 hF
   refine zM rfl rfl ?_
   refine zM rfl rfl ?_
   refine zM rfl rfl ?_
   refine zA rfl rfl (yI (v := .bool true) rfl rfl) ?_
   refine zA rfl rfl (zG (v := .bool true) rfl) ?_
   refine zM rfl rfl ?_
   refine zM rfl rfl ?_
   refine zA rfl rfl (yI (v := .bool true) rfl rfl) ?_
   have hR := Option.some.inj hF
   subst hR
   refine (zI (zB (And.intro ?_ ?_)))
   ·repeat' (first | with_reducible exact zN | refine zV rfl ?_ | refine zO rfl rfl ?_)
   exact ⟨(), (zK rfl zQ), H.pick [] (by decide)⟩
  have hF := zX c75 hF
  refine zA rfl rfl (zG (v := .string (bs p0)) rfl) ?_
  obtain ⟨x76, e77, hF⟩ := zJ hF
  refine zA rfl rfl (Do_sidx (s1 := p0) (q := 0) u9 rfl rfl e77) ?_
  obtain ⟨x78, e79, hF⟩ := zH hF
  refine zA rfl rfl (zT (wF (a := x76) (b := 122) rfl rfl) (congrArg Value.bool e79)) ?_
  refine zA rfl rfl (yH (v := .bool x78) rfl rfl) ?_
  refine yO (b := x78) rfl rfl rfl (fun c80 => ?_) (fun c80 => ?_)
  ·have hF := zW c80 hF
   refine zM rfl rfl ?_
   refine zM rfl rfl ?_
   refine zA rfl rfl (yI (v := .bool true) rfl rfl) ?_
   have hR := Option.some.inj hF
   subst hR
   refine (zI (zB (And.intro ?_ ?_)))
   ·repeat' (first | with_reducible exact zN | refine zV rfl ?_ | refine zO rfl rfl ?_)
   exact ⟨(), (zK rfl zQ), H.pick [] (by decide)⟩
  have hF := zX c80 hF
  refine zA rfl rfl (zG (v := .string (bs p0)) rfl) ?_
  have H81 := H
  obtain ⟨x82, e83, hF⟩ := zJ hF
  refine yJ rfl rfl (yC en78 rfl) (F_event_isWord_w p0 _ e83 _ _ _ (H.enter [] [] (by decide) rfl)) ?_
  rintro _ w84 ⟨rfl, G85⟩
  have H := H81.step (G85.only : Only [] _ _)
  refine ⟨_, rfl, ?_⟩
  refine zA rfl rfl (yH (v := .bool x82) rfl rfl) ?_
  have hR := Option.some.inj hF
  subst hR
  refine (zI (zB (And.intro ?_ ?_)))
  ·repeat' (first | with_reducible exact zN | refine zV rfl ?_ | refine zO rfl rfl ?_)
  exact ⟨(), (zK rfl zQ), H.pick [] (by decide)⟩
 rintro _ ρ w59 H
 have hF := hK60
 refine yF (b := g58) rfl (fun c86 => ?_) (fun c86 => ?_)
 ·have hF := zW c86 hF
  refine zD fun K87 hK87 => ?_
  refine zC ?_
  refine zA rfl rfl (zF (v := .bool false) rfl) ?_
  refine (zI (zB (hK87 _ _ ?_)))
  have hR := Option.some.inj hF
  subst hR
  refine (yG (zZ (post1 (v1 := .bool false) rfl rfl ?_)))
  exact ⟨rfl, H.pick [] (by decide)⟩
 have hF := zX c86 hF
 refine (yA (zB (hK32 _ _ ?_)))
 obtain ⟨k169, ek170, hF⟩ := xU hF
 refine yL [2, 3, 22, 23, 24, 25, 26, 27, 28, 29, 30, 31, 32] (fun (g : Unit) => []) (fun g wl => Hd O w wl S [] ∧ k169 () = some r) ?_ ?_
 ·skip
  refine zD fun K171 hK171 => ?_
  refine zC ?_
  refine zA rfl rfl (zG (v := .string (bs p0)) rfl) ?_
  obtain ⟨x172, e173, hF⟩ := zH hF
  refine zA rfl rfl (zT (Do_slen (s1 := p0) u9 rfl) (congrArg (Value.int .i64) e173)) ?_
  refine zA rfl rfl (zG (v := .int .i64 0) rfl) ?_
  refine (zI (zB (hK171 _ _ ?_)))
  refine yK ?_
  unfold F_event_isName_L1 at hF
  obtain ⟨B246, n247, eB248, hF⟩ := yT hF
  refine xC [2, 3, 24, 25, 26, 27, 28, 29, 30, 31, 32] (fun (g : Nat × Int) => [(24, .int .i64 g.2)]) (fun g wl => Hd O w wl S [] ∧ loopN B246 g.1 g.2 = some r) (fun g => g.1) (n247, 0) (zK rfl zQ) ⟨H.pick [] (by decide), hF⟩ ?_
  clear H hF
  rintro ⟨n247, g245⟩ ρ w250 ⟨H, hF⟩
  obtain ⟨n251, rfl, hF⟩ := yX hF
  have hF := yY eB248 hF
  refine zD fun K252 hK252 => ?_
  refine zC ?_
  obtain ⟨x253, e254, hF⟩ := zH hF
  refine zA rfl rfl (zT (xK (a := g245) (b := x172) rfl rfl) (congrArg Value.bool e254)) ?_
  refine (zI (zB (hK252 _ _ ?_)))
  refine zD fun K256 hK256 => ?_
  refine yF (b := x253) rfl (fun c257 => ?_) (fun c257 => ?_)
  ·have hF := zW c257 hF
   refine (yA (zB (hK256 _ _ ?_)))
   refine zD fun K271 hK271 => ?_
   refine yK ?_
   refine zD fun K272 hK272 => ?_
   refine zC ?_
   refine zA rfl rfl (zG (v := .int .i64 g245) rfl) ?_
   refine zA rfl rfl (zF (v := .int .i64 g245) rfl) ?_
   refine (zI (zB (hK272 _ _ ?_)))
   refine zD fun K273 hK273 => ?_
   refine zC ?_
   refine zA rfl rfl (zG (v := .string (bs p0)) rfl) ?_
   refine zA rfl rfl (zG (v := .int .i64 g245) rfl) ?_
   obtain ⟨x274, e275, hF⟩ := zJ hF
   refine zA rfl rfl (Do_sidx (s1 := p0) (q := g245) u9 rfl rfl e275) ?_
   have H276 := H
   obtain ⟨x277, e278, hF⟩ := zJ hF
   refine yJ rfl rfl (yC en79 rfl) (F_event_nameByte_w x274 _ e278 _ _ _ (H.enter [] [] (by decide) rfl)) ?_
   rintro _ w279 ⟨rfl, G280⟩
   have H := H276.step (G280.only : Only [] _ _)
   refine ⟨_, rfl, ?_⟩
   obtain ⟨x281, e282, hF⟩ := zH hF
   refine zA rfl rfl (zT (xY (p := x277) rfl) (congrArg Value.bool e282)) ?_
   refine (zI (zB (hK273 _ _ ?_)))
   refine yF (b := x281) rfl (fun c283 => ?_) (fun c283 => ?_)
   ·have hF := zW c283 hF
    refine zD fun K284 hK284 => ?_
    refine zC ?_
    refine zA rfl rfl (zF (v := .bool false) rfl) ?_
    refine (zI (zB (hK284 _ _ ?_)))
    have hR := Option.some.inj hF
    subst hR
    refine (yG (yM (zZ (zZ (yM (zZ (post1 (v1 := .bool false) rfl rfl ?_)))))))
    exact ⟨rfl, H.pick [] (by decide)⟩
   have hF := zX c283 hF
   refine (yA (yU (zB (hK271 _ _ ?_))))
   refine zC ?_
   obtain ⟨x285, e286, hF⟩ := zH hF
   refine zA rfl rfl (xJ (a := g245) (b := 1) rfl rfl e286) ?_
   refine zA rfl rfl (zG (v := .int .i64 x285) rfl) ?_
   refine (zI (zB (And.intro ?_ ?_)))
   ·repeat' (first | with_reducible exact zN | refine zV rfl ?_ | refine zO rfl rfl ?_)
   exact ⟨(n251, x285), (zK rfl zQ), ⟨H.pick [] (by decide), hF⟩, Nat.lt_succ_self _⟩
  have hF := zX c257 hF
  refine (xB (yN (yN (yR (zB (And.intro ?_ ?_))))))
  ·repeat' (first | with_reducible exact zN | refine zV rfl ?_ | refine zO rfl rfl ?_)
  exact ⟨(), zQ, ⟨H.pick [] (by decide), hF⟩⟩
 rintro _ ρ w168 ⟨H, hF⟩
 have hF := xZ ek170 hF
 refine zD fun K287 hK287 => ?_
 refine zC ?_
 refine zA rfl rfl (zF (v := .bool true) rfl) ?_
 refine (zI (zB (hK287 _ _ ?_)))
 have hR := Option.some.inj hF
 subst hR
 refine (yG (post1 (v1 := .bool true) rfl rfl ?_))
 exact ⟨rfl, H.pick [] (by decide)⟩
end Go.Proofs.YtbjhondbheijiaaGreatDoor.L
namespace Go.Proofs.YtbjhondbheijiaaGreatDoor.L
open Go.RowKit Go.OB Go.Lf
/- orangebox/event.IsName -/
set_option maxHeartbeats 4000000 in
theorem F_event_IsName_w (p0 : Str) (r : Bool) (hF : F_event_IsName p0 = some r) (O S : List Nat) (w : World) (H : Hd O w w S []) :
  Calls Tryz.prog 28 ([.string (bs p0)] : List Value).toArray w fun e w' => e = .returned (.bool r) ∧ Hd O w w' S [] := by
 unfold F_event_IsName at hF
 refine yB 5 Tryz.func28 rfl rfl rfl ?_
 refine zD fun K1 hK1 => ?_
 refine zC ?_
 refine zA rfl rfl (zF (v := .bool false) rfl) ?_
 refine (zI (zB (hK1 _ _ ?_)))
 refine zD fun K2 hK2 => ?_
 refine zC ?_
 refine zA rfl rfl (zG (v := .string (bs p0)) rfl) ?_
 have H3 := H
 obtain ⟨x4, e5, hF⟩ := zJ hF
 refine yJ rfl rfl (yC en55 rfl) (F_event_isName_w p0 _ e5 _ _ _ (H.enter [] [] (by decide) rfl)) ?_
 rintro _ w6 ⟨rfl, G7⟩
 have H := H3.step (G7.only : Only [] _ _)
 refine ⟨_, rfl, ?_⟩
 refine zA rfl rfl (zF (v := .bool x4) rfl) ?_
 refine (zI (zB (hK2 _ _ ?_)))
 have hR := Option.some.inj hF
 subst hR
 refine (yG (post1 (v1 := .bool x4) rfl rfl ?_))
 exact ⟨rfl, H.pick [] (by decide)⟩
end Go.Proofs.YtbjhondbheijiaaGreatDoor.L
namespace Go.Proofs.YtbjhondbheijiaaGreatDoor.L
open Go.RowKit Go.OB Go.Lf
/- orangebox/fleet.within -/
set_option maxHeartbeats 4000000 in
theorem F_fleet_within_w (p0 : Int) (p1 : Int) (p2 : Int) (r : Bool) (hF : F_fleet_within p0 p1 p2 = some r) (O S : List Nat) (w : World) (H : Hd O w w S []) :
  Calls Tryz.prog 21 ([.int .i64 p0, .int .i64 p1, .int .i64 p2] : List Value).toArray w fun e w' => e = .returned (.bool r) ∧ Hd O w w' S [] := by
 unfold F_fleet_within at hF
 refine yB 15 Tryz.func21 rfl rfl rfl ?_
 refine zD fun K1 hK1 => ?_
 refine zC ?_
 refine zA rfl rfl (zF (v := .bool false) rfl) ?_
 refine (zI (zB (hK1 _ _ ?_)))
 obtain ⟨g7, hF, hK9⟩ := zJ hF
 refine yL [6, 7, 8, 9, 10, 11, 12, 13, 14] (fun (g : Unit) => [(6, .bool g7)]) (fun g wl => Hd O w wl S []) ?_ ?_
 ·skip
  refine zC ?_
  refine zA rfl rfl (zG (v := .int .i64 p0) rfl) ?_
  refine zA rfl rfl (zG (v := .int .i64 p1) rfl) ?_
  obtain ⟨x10, e11, hF⟩ := zH hF
  refine zA rfl rfl (zT (Do_geq (a := p0) (b := p1) rfl rfl) (congrArg Value.bool e11)) ?_
  refine yO (b := x10) rfl rfl rfl (fun c12 => ?_) (fun c12 => ?_)
  ·have hF := zW c12 hF
   refine zA rfl rfl (zG (v := .int .i64 p0) rfl) ?_
   refine zA rfl rfl (zG (v := .int .i64 p2) rfl) ?_
   obtain ⟨x13, e14, hF⟩ := zH hF
   refine zA rfl rfl (zT (Do_leq (a := p0) (b := p2) rfl rfl) (congrArg Value.bool e14)) ?_
   refine zA rfl rfl (yI (v := .bool x13) rfl rfl) ?_
   refine zA rfl rfl (zF (v := .bool x13) rfl) ?_
   have hR := Option.some.inj hF
   subst hR
   refine (zI (zB (And.intro ?_ ?_)))
   ·repeat' (first | with_reducible exact zN | refine zV rfl ?_ | refine zO rfl rfl ?_)
   exact ⟨(), (zK rfl zQ), H.pick [] (by decide)⟩
  have hF := zX c12 hF
  refine zM rfl rfl ?_
  refine zM rfl rfl ?_
  refine zM rfl rfl ?_
  refine zA rfl rfl (yH (v := .bool false) rfl rfl) ?_
  refine zA rfl rfl (zF (v := .bool false) rfl) ?_
  have hR := Option.some.inj hF
  subst hR
  refine (zI (zB (And.intro ?_ ?_)))
  ·repeat' (first | with_reducible exact zN | refine zV rfl ?_ | refine zO rfl rfl ?_)
  exact ⟨(), (zK rfl zQ), H.pick [] (by decide)⟩
 rintro _ ρ w8 H
 have hF := hK9
 have hR := Option.some.inj hF
 subst hR
 refine (yG (post1 (v1 := .bool g7) rfl rfl ?_))
 exact ⟨rfl, H.pick [] (by decide)⟩
end Go.Proofs.YtbjhondbheijiaaGreatDoor.L
namespace Go.Proofs.YtbjhondbheijiaaGreatDoor.L
open Go.RowKit Go.OB Go.Lf
/- orangebox/event.CheckTracks$1 -/
set_option maxHeartbeats 4000000 in
theorem F_event_CheckTracks_1_w (p0 : Track) (c0 : Track) (v1 : Value) (b3 : Nat) (v4 : Value) (r : Bool) (hF : F_event_CheckTracks_1 p0 c0 = some r) (O S : List Nat) (w : World) (H : Hd O w w S [.blk b3 [.string (bs c0.Name), .int .i64 c0.Series.Den, v4, .int .i64 c0.Long] 78, .fz (.sl rSample v1 p0.Series.Samples), .fz (.sl rSample v4 c0.Series.Samples)]) :
  Calls Tryz.prog 99 ([.agg [.string (bs p0.Name), .int .i64 p0.Series.Den, v1, .int .i64 p0.Long].toArray, .pointer (some ⟨b3, 0, none⟩)] : List Value).toArray w fun e w' => e = .returned (.bool r) ∧ Hd O w w' S [.blk b3 [.string (bs c0.Name), .int .i64 c0.Series.Den, v4, .int .i64 c0.Long] 78] := by
 unfold F_event_CheckTracks_1 at hF
 refine yB 9 Tryz.func99 rfl rfl rfl ?_
 refine zD fun K7 hK7 => ?_
 refine zC ?_
 refine xE rfl rfl (Lx_box (cs := [.string (bs p0.Name), .int .i64 p0.Series.Den, v1, .int .i64 p0.Long]) rfl H) ?_
 rintro _ w10 ⟨b8, rfl, H⟩
 refine zA rfl rfl (zF (v := .bool false) rfl) ?_
 refine (zI (zB (hK7 _ _ ?_)))
 refine zD fun K11 hK11 => ?_
 refine zC ?_
 refine zA rfl rfl (fa78_0 rfl) ?_
 refine zA rfl rfl (zU one9 rfl (Cells.get (Blk.cells (H.item (i := 3) rfl)) (i := 0) rfl)) ?_
 refine zA rfl rfl (fa78_0 rfl) ?_
 refine zA rfl rfl (zU one9 rfl (Cells.get (Blk.cells (H.item (i := 0) rfl)) (i := 0) rfl)) ?_
 obtain ⟨x12, e13, hF⟩ := zH hF
 refine zA rfl rfl (zT (Do_eqls (s1 := p0.Name) (s2 := c0.Name) rfl rfl) (congrArg Value.bool e13)) ?_
 refine zA rfl rfl (zF (v := .bool x12) rfl) ?_
 refine (zI (zB (hK11 _ _ ?_)))
 have hR := Option.some.inj hF
 subst hR
 refine (yG (post1 (v1 := .bool x12) rfl rfl ?_))
 exact ⟨rfl, H.pick [0] (by decide)⟩
end Go.Proofs.YtbjhondbheijiaaGreatDoor.L
namespace Go.Proofs.YtbjhondbheijiaaGreatDoor.L
open Go.RowKit Go.OB Go.Lf
/- slices.IndexFunc[[]orangebox/api.Track,orangebox/api.Track]@orangebox/event.CheckTracks$1 -/
set_option maxHeartbeats 4000000 in
theorem F_slices_IndexFunc___api_Track_api_Track__event_CheckTracks_1_w (p0 : List Track) (p1c0 : Track) (v1 : Value) (b3 : Nat) (v4 : Value) (r : Int) (hF : F_slices_IndexFunc___api_Track_api_Track__event_CheckTracks_1 p0 p1c0 = some r) (O S : List Nat) (w : World) (H : Hd O w w S [.blk b3 [.string (bs p1c0.Name), .int .i64 p1c0.Series.Den, v4, .int .i64 p1c0.Long] 78, .fz (.sl rTrack v1 p0), .fz (.sl rSample v4 p1c0.Series.Samples)]) :
  Calls Tryz.prog 109 ([v1, .func (.func 99) #[] [.pointer (some ⟨b3, 0, none⟩)].toArray] : List Value).toArray w fun e w' => e = .returned (.int .i64 r) ∧ Hd O w w' S [.blk b3 [.string (bs p1c0.Name), .int .i64 p1c0.Series.Den, v4, .int .i64 p1c0.Long] 78] := by
 unfold F_slices_IndexFunc___api_Track_api_Track__event_CheckTracks_1 at hF
 refine yB 19 Tryz.func109 rfl rfl rfl ?_
 refine zD fun K7 hK7 => ?_
 refine zC ?_
 refine zA rfl rfl (zF (v := .int .i64 0) rfl) ?_
 refine (zI (zB (hK7 _ _ ?_)))
 obtain ⟨k132, ek133, hF⟩ := xU hF
 refine yL [4, 5, 6, 7, 8, 9, 10, 11, 12, 13, 14, 15, 16, 17, 18] (fun (g : Unit) => []) (fun g wl => Hd O w wl S [.blk b3 [.string (bs p1c0.Name), .int .i64 p1c0.Series.Den, v4, .int .i64 p1c0.Long] 78, .fz (.sl rSample v4 p1c0.Series.Samples)] ∧ k132 () = some r) ?_ ?_
 ·skip
  refine zD fun K134 hK134 => ?_
  refine zC ?_
  refine zA rfl rfl (zG (v := v1) rfl) ?_
  obtain ⟨x135, e136, hF⟩ := zH hF
  obtain ⟨a137, c138, q139⟩ := SlF.len ((H.item (i := 1) rfl))
  refine zA rfl rfl (zT (xI u68 q139) (congrArg (Value.int .i64) e136)) ?_
  refine zA rfl rfl (zG (v := .int .i64 0) rfl) ?_
  refine (zI (zB (hK134 _ _ ?_)))
  refine yK ?_
  unfold F_slices_IndexFunc___api_Track_api_Track__event_CheckTracks_1_L1 at hF
  obtain ⟨B252, n253, eB254, hF⟩ := yT hF
  refine xC [4, 5, 8, 9, 10, 11, 12, 13, 14, 15, 16, 17, 18] (fun (g : Nat × Int) => [(8, .int .i64 g.2)]) (fun g wl => Hd O w wl S [.blk b3 [.string (bs p1c0.Name), .int .i64 p1c0.Series.Den, v4, .int .i64 p1c0.Long] 78, .fz (.sl rSample v4 p1c0.Series.Samples), .fz (.sl rTrack v1 p0)] ∧ loopN B252 g.1 g.2 = some r) (fun g => g.1) (n253, 0) (zK rfl zQ) ⟨H.pick [0, 2, 1] (by decide), hF⟩ ?_
  clear H hF
  rintro ⟨n253, g251⟩ ρ w256 ⟨H, hF⟩
  obtain ⟨n257, rfl, hF⟩ := yX hF
  have hF := yY eB254 hF
  refine zD fun K258 hK258 => ?_
  refine zC ?_
  obtain ⟨x259, e260, hF⟩ := zH hF
  refine zA rfl rfl (zT (xK (a := g251) (b := x135) rfl rfl) (congrArg Value.bool e260)) ?_
  refine (zI (zB (hK258 _ _ ?_)))
  refine zD fun K262 hK262 => ?_
  refine yF (b := x259) rfl (fun c263 => ?_) (fun c263 => ?_)
  ·have hF := zW c263 hF
   refine (yA (zB (hK262 _ _ ?_)))
   refine zD fun K287 hK287 => ?_
   refine yK ?_
   refine zD fun K288 hK288 => ?_
   refine zC ?_
   refine zA rfl rfl (zG (v := .int .i64 g251) rfl) ?_
   refine zA rfl rfl (zF (v := .int .i64 g251) rfl) ?_
   refine (zI (zB (hK288 _ _ ?_)))
   refine zD fun K289 hK289 => ?_
   refine zC ?_
   refine zA rfl rfl (zG (v := .func (.func 99) #[] [.pointer (some ⟨b3, 0, none⟩)].toArray) rfl) ?_
   refine zA rfl rfl (zG (v := v1) rfl) ?_
   refine zA rfl rfl (zG (v := .int .i64 g251) rfl) ?_
   obtain ⟨x290, e291, hF⟩ := zJ hF
   obtain ⟨b292, o293, c294, cs295, q296, h299, h297, h298, h300⟩ := wB (H.item (i := 2) rfl) e291
   obtain ⟨v301, rfl, h302⟩ := rTrack_open h299
   have H := H.fzs [.at b292 (o293 + g251.toNat * 4) _, .sl rSample v301 x290.Series.Samples] ⟨⟨h297, h298, h300⟩, h302, trivial⟩
   refine zA rfl rfl (xG u68 sz78 q296 rfl (yD e291).1 (yD e291).2.1 rfl rfl) ?_
   refine zA rfl rfl (zT (yV (cs := [.string (bs x290.Name), .int .i64 x290.Series.Den, v301, .int .i64 x290.Long]) agg78 rfl sz78 rfl (H.item (i := 3) rfl).2.2) rfl) ?_
   obtain ⟨x305, e306, hF⟩ := zJ hF
   refine yJ rfl rfl (DoC_clo en99 rfl rfl) (F_event_CheckTracks_1_w x290 p1c0 v301 b3 v4 _ e306 _ _ _ (H.enter [0] [4, 1] (by decide) rfl)) ?_
   rintro _ w307 ⟨rfl, G308⟩
   have H : Hd O _ w307 _ [.fz (.sl rSample v4 p1c0.Series.Samples), .fz (.sl rTrack v1 p0), .fz (.at b292 (o293 + g251.toNat * 4) [.string (bs x290.Name), .int .i64 x290.Series.Den, v301, .int .i64 x290.Long]), .fz (.sl rSample v301 x290.Series.Samples), .blk b3 [.string (bs p1c0.Name), .int .i64 p1c0.Series.Den, v4, .int .i64 p1c0.Long] 78] := H.back [0] [4, 1] rfl G308
   refine ⟨_, rfl, ?_⟩
   refine (zI (zB (hK289 _ _ ?_)))
   refine yF (b := x305) rfl (fun c309 => ?_) (fun c309 => ?_)
   ·have hF := zW c309 hF
    refine zD fun K310 hK310 => ?_
    refine zC ?_
    refine zA rfl rfl (zG (v := .int .i64 g251) rfl) ?_
    refine zA rfl rfl (zF (v := .int .i64 g251) rfl) ?_
    refine (zI (zB (hK310 _ _ ?_)))
    have hR := Option.some.inj hF
    subst hR
    refine (yG (yM (zZ (zZ (yM (zZ (post1 (v1 := .int .i64 g251) rfl rfl ?_)))))))
    exact ⟨rfl, H.pick [4] (by decide)⟩
   have hF := zX c309 hF
   refine (yA (yU (zB (hK287 _ _ ?_))))
   refine zC ?_
   obtain ⟨x311, e312, hF⟩ := zH hF
   refine zA rfl rfl (xJ (a := g251) (b := 1) rfl rfl e312) ?_
   refine zA rfl rfl (zG (v := .int .i64 x311) rfl) ?_
   refine (zI (zB (And.intro ?_ ?_)))
   ·repeat' (first | with_reducible exact zN | refine zV rfl ?_ | refine zO rfl rfl ?_)
   exact ⟨(n257, x311), (zK rfl zQ), ⟨H.pick [4, 0, 1] (by decide), hF⟩, Nat.lt_succ_self _⟩
  have hF := zX c263 hF
  refine (xB (yN (yN (yR (zB (And.intro ?_ ?_))))))
  ·repeat' (first | with_reducible exact zN | refine zV rfl ?_ | refine zO rfl rfl ?_)
  exact ⟨(), zQ, ⟨H.pick [0, 1] (by decide), hF⟩⟩
 rintro _ ρ w131 ⟨H, hF⟩
 have hF := xZ ek133 hF
 refine zD fun K313 hK313 => ?_
 refine zC ?_
 refine zA rfl rfl (zF (v := .int .i64 (-1)) rfl) ?_
 refine (zI (zB (hK313 _ _ ?_)))
 have hR := Option.some.inj hF
 subst hR
 refine (yG (post1 (v1 := .int .i64 (-1)) rfl rfl ?_))
 exact ⟨rfl, H.pick [0] (by decide)⟩
end Go.Proofs.YtbjhondbheijiaaGreatDoor.L
namespace Go.Proofs.YtbjhondbheijiaaGreatDoor.L
open Go.RowKit Go.OB Go.Lf
/- slices.ContainsFunc[[]orangebox/api.Track,orangebox/api.Track]@orangebox/event.CheckTracks$1 -/
set_option maxHeartbeats 4000000 in
theorem F_slices_ContainsFunc___api_Track_api_Track__event_CheckTracks_1_w (p0 : List Track) (p1c0 : Track) (v1 : Value) (b3 : Nat) (v4 : Value) (r : Bool) (hF : F_slices_ContainsFunc___api_Track_api_Track__event_CheckTracks_1 p0 p1c0 = some r) (O S : List Nat) (w : World) (H : Hd O w w S [.blk b3 [.string (bs p1c0.Name), .int .i64 p1c0.Series.Den, v4, .int .i64 p1c0.Long] 78, .fz (.sl rTrack v1 p0), .fz (.sl rSample v4 p1c0.Series.Samples)]) :
  Calls Tryz.prog 98 ([v1, .func (.func 99) #[] [.pointer (some ⟨b3, 0, none⟩)].toArray] : List Value).toArray w fun e w' => e = .returned (.bool r) ∧ Hd O w w' S [.blk b3 [.string (bs p1c0.Name), .int .i64 p1c0.Series.Den, v4, .int .i64 p1c0.Long] 78] := by
 unfold F_slices_ContainsFunc___api_Track_api_Track__event_CheckTracks_1 at hF
 refine yB 9 Tryz.func98 rfl rfl rfl ?_
 refine zD fun K7 hK7 => ?_
 refine zC ?_
 refine zA rfl rfl (zF (v := .bool false) rfl) ?_
 refine (zI (zB (hK7 _ _ ?_)))
 refine zD fun K8 hK8 => ?_
 refine zC ?_
 refine zA rfl rfl (zG (v := v1) rfl) ?_
 refine zA rfl rfl (zG (v := .func (.func 99) #[] [.pointer (some ⟨b3, 0, none⟩)].toArray) rfl) ?_
 obtain ⟨x9, e10, hF⟩ := zJ hF
 refine yJ rfl rfl (yC en109 rfl) (F_slices_IndexFunc___api_Track_api_Track__event_CheckTracks_1_w p0 p1c0 v1 b3 v4 _ e10 _ _ _ (H.enter [0] [1, 2] (by decide) rfl)) ?_
 rintro _ w11 ⟨rfl, G12⟩
 have H : Hd O _ w11 _ [.fz (.sl rTrack v1 p0), .fz (.sl rSample v4 p1c0.Series.Samples), .blk b3 [.string (bs p1c0.Name), .int .i64 p1c0.Series.Den, v4, .int .i64 p1c0.Long] 78] := H.back [0] [1, 2] rfl G12
 refine ⟨_, rfl, ?_⟩
 obtain ⟨x13, e14, hF⟩ := zH hF
 refine zA rfl rfl (zT (Do_geq (a := x9) (b := 0) rfl rfl) (congrArg Value.bool e14)) ?_
 refine zA rfl rfl (zF (v := .bool x13) rfl) ?_
 refine (zI (zB (hK8 _ _ ?_)))
 have hR := Option.some.inj hF
 subst hR
 refine (yG (post1 (v1 := .bool x13) rfl rfl ?_))
 exact ⟨rfl, H.pick [2] (by decide)⟩
end Go.Proofs.YtbjhondbheijiaaGreatDoor.L
namespace Go.Proofs.YtbjhondbheijiaaGreatDoor.L
open Go.RowKit Go.OB Go.Lf
/- orangebox/series.within -/
set_option maxHeartbeats 4000000 in
theorem F_series_within_w (p0 : Int) (p1 : Int) (p2 : Int) (r : Bool) (hF : F_series_within p0 p1 p2 = some r) (O S : List Nat) (w : World) (H : Hd O w w S []) :
  Calls Tryz.prog 115 ([.int .i64 p0, .int .i64 p1, .int .i64 p2] : List Value).toArray w fun e w' => e = .returned (.bool r) ∧ Hd O w w' S [] := by
 unfold F_series_within at hF
 refine yB 15 Tryz.func115 rfl rfl rfl ?_
 refine zD fun K1 hK1 => ?_
 refine zC ?_
 refine zA rfl rfl (zF (v := .bool false) rfl) ?_
 refine (zI (zB (hK1 _ _ ?_)))
 obtain ⟨g7, hF, hK9⟩ := zJ hF
 refine yL [6, 7, 8, 9, 10, 11, 12, 13, 14] (fun (g : Unit) => [(6, .bool g7)]) (fun g wl => Hd O w wl S []) ?_ ?_
 ·skip
  refine zC ?_
  refine zA rfl rfl (zG (v := .int .i64 p0) rfl) ?_
  refine zA rfl rfl (zG (v := .int .i64 p1) rfl) ?_
  obtain ⟨x10, e11, hF⟩ := zH hF
  refine zA rfl rfl (zT (Do_geq (a := p0) (b := p1) rfl rfl) (congrArg Value.bool e11)) ?_
  refine yO (b := x10) rfl rfl rfl (fun c12 => ?_) (fun c12 => ?_)
  ·have hF := zW c12 hF
   refine zA rfl rfl (zG (v := .int .i64 p0) rfl) ?_
   refine zA rfl rfl (zG (v := .int .i64 p2) rfl) ?_
   obtain ⟨x13, e14, hF⟩ := zH hF
   refine zA rfl rfl (zT (Do_leq (a := p0) (b := p2) rfl rfl) (congrArg Value.bool e14)) ?_
   refine zA rfl rfl (yI (v := .bool x13) rfl rfl) ?_
   refine zA rfl rfl (zF (v := .bool x13) rfl) ?_
   have hR := Option.some.inj hF
   subst hR
   refine (zI (zB (And.intro ?_ ?_)))
   ·repeat' (first | with_reducible exact zN | refine zV rfl ?_ | refine zO rfl rfl ?_)
   exact ⟨(), (zK rfl zQ), H.pick [] (by decide)⟩
  have hF := zX c12 hF
  refine zM rfl rfl ?_
  refine zM rfl rfl ?_
  refine zM rfl rfl ?_
  refine zA rfl rfl (yH (v := .bool false) rfl rfl) ?_
  refine zA rfl rfl (zF (v := .bool false) rfl) ?_
  have hR := Option.some.inj hF
  subst hR
  refine (zI (zB (And.intro ?_ ?_)))
  ·repeat' (first | with_reducible exact zN | refine zV rfl ?_ | refine zO rfl rfl ?_)
  exact ⟨(), (zK rfl zQ), H.pick [] (by decide)⟩
 rintro _ ρ w8 H
 have hF := hK9
 have hR := Option.some.inj hF
 subst hR
 refine (yG (post1 (v1 := .bool g7) rfl rfl ?_))
 exact ⟨rfl, H.pick [] (by decide)⟩
end Go.Proofs.YtbjhondbheijiaaGreatDoor.L
