/- Walks: what each function computes, for every argument; no condition but those that stand in the statements. -/
import Derived.Test.YtckmiljbaejijaaGreatDoorRows
import Derived.Test.YtckmiljbaejijaaGreatDoorKP
import Derived.Test.YtckmiljbaejijaaGreatDoorXVc
import Derived.Test.YtckmiljbaejijaaGreatDoorXVs
import Derived.Test.YtckmiljbaejijaaGreatDoorLfS
namespace Go.Proofs.YtckmiljbaejijaaGreatDoor.L
open Go.RowKit Go.OB Go.Lf
theorem u2 : Tryz.prog.underlying 2 = some (.int .i64) := Tryz.underlying2
theorem u5 : Tryz.prog.underlying 5 = some (.int .u8) := Tryz.underlying5
theorem u9 : Tryz.prog.underlying 9 = some .string := Tryz.underlying9
theorem u22 : Tryz.prog.underlying 22 = some (.slice 9) := Tryz.underlying22
theorem u23 : Tryz.prog.underlying 23 = some (.slice 122) := Tryz.underlying23
theorem u24 : Tryz.prog.underlying 24 = some (.slice 95) := Tryz.underlying24
theorem u28 : Tryz.prog.underlying 28 = some (.slice 38) := Tryz.underlying28
theorem u38 : Tryz.prog.underlying 38 = some (.slice 3) := Tryz.underlying38
theorem u61 : Tryz.prog.underlying 61 = some (.slice 5) := Tryz.underlying61
theorem u68 : Tryz.prog.underlying 68 = some (.slice 70) := Tryz.underlying68
theorem u163 : Tryz.prog.underlying 163 = some (.map 9 3) := Tryz.underlying163
theorem u209 : Tryz.prog.underlying 209 = some (.array 7 9) := Tryz.underlying209
theorem u297 : Tryz.prog.underlying 297 = some (.int .u64) := Tryz.underlying297
theorem fo107_2 : fieldOf Tryz.prog 107 2 = some (2, 3) := by kernel_rfl
theorem fo107_3 : fieldOf Tryz.prog 107 3 = some (3, 9) := by kernel_rfl
theorem ui131 : Tryz.prog.underlying 131 = some (.interface (Tryz.prog.methodsAt 131)) := by kernel_rfl
theorem sz3 : Sz Tryz.prog 3 1 := by unfold Sz; kernel_rfl
theorem sz9 : Sz Tryz.prog 9 1 := by unfold Sz; kernel_rfl
theorem sz22 : Sz Tryz.prog 22 1 := by unfold Sz; kernel_rfl
theorem sz24 : Sz Tryz.prog 24 1 := by unfold Sz; kernel_rfl
theorem sz26 : Sz Tryz.prog 26 3 := by unfold Sz; kernel_rfl
theorem sz38 : Sz Tryz.prog 38 1 := by unfold Sz; kernel_rfl
theorem sz48 : Sz Tryz.prog 48 1 := by unfold Sz; kernel_rfl
theorem sz61 : Sz Tryz.prog 61 1 := by unfold Sz; kernel_rfl
theorem sz70 : Sz Tryz.prog 70 7 := by unfold Sz; kernel_rfl
theorem sz95 : Sz Tryz.prog 95 8 := by unfold Sz; kernel_rfl
theorem sz107 : Sz Tryz.prog 107 4 := by unfold Sz; kernel_rfl
theorem sz111 : Sz Tryz.prog 111 2 := by unfold Sz; kernel_rfl
theorem sz122 : Sz Tryz.prog 122 9 := by unfold Sz; kernel_rfl
theorem sz226 : Sz Tryz.prog 226 7 := by unfold Sz; kernel_rfl
theorem one3 : OneC Tryz.prog 3 := by unfold OneC; kernel_rfl
theorem one4 : OneC Tryz.prog 4 := by unfold OneC; kernel_rfl
theorem one9 : OneC Tryz.prog 9 := by unfold OneC; kernel_rfl
theorem one22 : OneC Tryz.prog 22 := by unfold OneC; kernel_rfl
theorem one23 : OneC Tryz.prog 23 := by unfold OneC; kernel_rfl
theorem one24 : OneC Tryz.prog 24 := by unfold OneC; kernel_rfl
theorem one30 : OneC Tryz.prog 30 := by unfold OneC; kernel_rfl
theorem one38 : OneC Tryz.prog 38 := by unfold OneC; kernel_rfl
theorem one48 : OneC Tryz.prog 48 := by unfold OneC; kernel_rfl
theorem one61 : OneC Tryz.prog 61 := by unfold OneC; kernel_rfl
theorem one68 : OneC Tryz.prog 68 := by unfold OneC; kernel_rfl
theorem one105 : OneC Tryz.prog 105 := by unfold OneC; kernel_rfl
theorem agg26 : Agg Tryz.prog 26 := by unfold Agg; kernel_rfl
theorem agg70 : Agg Tryz.prog 70 := by unfold Agg; kernel_rfl
theorem agg95 : Agg Tryz.prog 95 := by unfold Agg; kernel_rfl
theorem agg107 : Agg Tryz.prog 107 := by unfold Agg; kernel_rfl
theorem agg122 : Agg Tryz.prog 122 := by unfold Agg; kernel_rfl
theorem agg226 : Agg Tryz.prog 226 := by unfold Agg; kernel_rfl
theorem zero3 : Go.OB.Zero Tryz.prog 3 ([.int .i64 0]) := by unfold Go.OB.Zero; kernel_rfl
theorem zero22 : Go.OB.Zero Tryz.prog 22 ([.slice none 0 0]) := by unfold Go.OB.Zero; kernel_rfl
theorem zero26 : Go.OB.Zero Tryz.prog 26 ([.slice none 0 0, .slice none 0 0, .slice none 0 0]) := by unfold Go.OB.Zero; kernel_rfl
theorem zero48 : Go.OB.Zero Tryz.prog 48 ([.nilFunc]) := by unfold Go.OB.Zero; kernel_rfl
theorem zero70 : Go.OB.Zero Tryz.prog 70 ([.int .i64 0, .string (bs []), .string (bs []), .int .i64 0, .int .i64 0, .int .i64 0, .slice none 0 0]) := by unfold Go.OB.Zero; kernel_rfl
theorem zero95 : Go.OB.Zero Tryz.prog 95 ([.string (bs []), .int .i64 0, .string (bs []), .string (bs []), .int .i64 0, .int .i64 0, .int .i64 0, .slice none 0 0]) := by unfold Go.OB.Zero; kernel_rfl
theorem zero107 : Go.OB.Zero Tryz.prog 107 ([.int .i64 0, .int .i64 0, .int .i64 0, .string (bs [])]) := by unfold Go.OB.Zero; kernel_rfl
theorem zero111 : Go.OB.Zero Tryz.prog 111 ([.int .i64 0, .int .i64 0]) := by unfold Go.OB.Zero; kernel_rfl
theorem zero122 : Go.OB.Zero Tryz.prog 122 ([.string (bs []), .string (bs []), .int .i64 0, .string (bs []), .string (bs []), .int .i64 0, .int .i64 0, .int .i64 0, .slice none 0 0]) := by unfold Go.OB.Zero; kernel_rfl
theorem zero129 : Go.OB.Zero Tryz.prog 129 ([.pointer none, .slice none 0 0]) := by unfold Go.OB.Zero; kernel_rfl
theorem zero226 : Go.OB.Zero Tryz.prog 226 ([.bool false, .bool false, .bool false, .bool false, .bool false, .int .i64 0, .int .i64 0]) := by unfold Go.OB.Zero; kernel_rfl
theorem el3 : El Tryz.prog 3 1 8 ([.int .i64 0]) := ⟨by kernel_rfl, by kernel_rfl, by kernel_rfl, by decide, by decide⟩
theorem el5 : El Tryz.prog 5 1 1 ([.int .u8 0]) := ⟨by kernel_rfl, by kernel_rfl, by kernel_rfl, by decide, by decide⟩
theorem el9 : El Tryz.prog 9 1 16 ([.string (bs [])]) := ⟨by kernel_rfl, by kernel_rfl, by kernel_rfl, by decide, by decide⟩
theorem el38 : El Tryz.prog 38 1 24 ([.slice none 0 0]) := ⟨by kernel_rfl, by kernel_rfl, by kernel_rfl, by decide, by decide⟩
theorem el70 : El Tryz.prog 70 7 88 ([.int .i64 0, .string (bs []), .string (bs []), .int .i64 0, .int .i64 0, .int .i64 0, .slice none 0 0]) := ⟨by kernel_rfl, by kernel_rfl, by kernel_rfl, by decide, by decide⟩
theorem el95 : El Tryz.prog 95 8 104 ([.string (bs []), .int .i64 0, .string (bs []), .string (bs []), .int .i64 0, .int .i64 0, .int .i64 0, .slice none 0 0]) := ⟨by kernel_rfl, by kernel_rfl, by kernel_rfl, by decide, by decide⟩
theorem z8_5 : Z8 Tryz.prog 5 := by unfold Z8; kernel_rfl
theorem bz63 : Tryz.prog.built 63 [] = some ([.slice none 0 0]).toArray := by kernel_rfl
theorem bz226 : Tryz.prog.built 226 [] = some ([.bool false, .bool false, .bool false, .bool false, .bool false, .int .i64 0, .int .i64 0]).toArray := by kernel_rfl
theorem bt70_0 (a0 : Int) : Tryz.prog.built 70 [(0, .int .i64 a0)] = some [.int .i64 a0, .string (bs []), .string (bs []), .int .i64 0, .int .i64 0, .int .i64 0, .slice none 0 0].toArray := by kernel_rfl
theorem bt70_0_1 (a0 : Int) (a1 : Str) : Tryz.prog.built 70 [(0, .int .i64 a0), (1, .string (bs a1))] = some [.int .i64 a0, .string (bs a1), .string (bs []), .int .i64 0, .int .i64 0, .int .i64 0, .slice none 0 0].toArray := by kernel_rfl
theorem bt70_0_6 (a0 : Int) (a1a : Option Addr) (a1n a1c : Nat) : Tryz.prog.built 70 [(0, .int .i64 a0), (6, .slice a1a a1n a1c)] = some [.int .i64 a0, .string (bs []), .string (bs []), .int .i64 0, .int .i64 0, .int .i64 0, .slice a1a a1n a1c].toArray := by kernel_rfl
theorem bt95_0 (a0 : Str) : Tryz.prog.built 95 [(0, .string (bs a0))] = some [.string (bs a0), .int .i64 0, .string (bs []), .string (bs []), .int .i64 0, .int .i64 0, .int .i64 0, .slice none 0 0].toArray := by kernel_rfl
theorem bt107_0_1 (a0 : Int) (a1 : Int) : Tryz.prog.built 107 [(0, .int .i64 a0), (1, .int .i64 a1)] = some [.int .i64 a0, .int .i64 a1, .int .i64 0, .string (bs [])].toArray := by kernel_rfl
theorem bt109_0 (a0 : Str) : Tryz.prog.built 109 [(0, .string (bs a0))] = some [.string (bs a0), .int .i64 0, .int .i64 0, .int .i64 0, .int .i64 0, .string (bs []), .slice none 0 0, .slice none 0 0, .slice none 0 0].toArray := by kernel_rfl
theorem bt226_0 (a0 : Bool) : Tryz.prog.built 226 [(0, .bool a0)] = some [.bool a0, .bool false, .bool false, .bool false, .bool false, .int .i64 0, .int .i64 0].toArray := by kernel_rfl
theorem bt226_0_1_2 (a0 : Bool) (a1 : Bool) (a2 : Bool) : Tryz.prog.built 226 [(0, .bool a0), (1, .bool a1), (2, .bool a2)] = some [.bool a0, .bool a1, .bool a2, .bool false, .bool false, .int .i64 0, .int .i64 0].toArray := by kernel_rfl
theorem bt226_0_2_3 (a0 : Bool) (a1 : Bool) (a2 : Bool) : Tryz.prog.built 226 [(0, .bool a0), (2, .bool a1), (3, .bool a2)] = some [.bool a0, .bool false, .bool a1, .bool a2, .bool false, .int .i64 0, .int .i64 0].toArray := by kernel_rfl
theorem bt226_0_3_4 (a0 : Bool) (a1 : Bool) (a2 : Bool) : Tryz.prog.built 226 [(0, .bool a0), (3, .bool a1), (4, .bool a2)] = some [.bool a0, .bool false, .bool false, .bool a1, .bool a2, .int .i64 0, .int .i64 0].toArray := by kernel_rfl
theorem bt226_3_4_5_6 (a0 : Bool) (a1 : Bool) (a2 : Int) (a3 : Int) : Tryz.prog.built 226 [(3, .bool a0), (4, .bool a1), (5, .int .i64 a2), (6, .int .i64 a3)] = some [.bool false, .bool false, .bool false, .bool a0, .bool a1, .int .i64 a2, .int .i64 a3].toArray := by kernel_rfl
theorem bt226_4_5_6 (a0 : Bool) (a1 : Int) (a2 : Int) : Tryz.prog.built 226 [(4, .bool a0), (5, .int .i64 a1), (6, .int .i64 a2)] = some [.bool false, .bool false, .bool false, .bool false, .bool a0, .int .i64 a1, .int .i64 a2].toArray := by kernel_rfl
theorem bt226_5_6 (a0 : Int) (a1 : Int) : Tryz.prog.built 226 [(5, .int .i64 a0), (6, .int .i64 a1)] = some [.bool false, .bool false, .bool false, .bool false, .bool false, .int .i64 a0, .int .i64 a1].toArray := by kernel_rfl
theorem fa26_0 {ρ : Env} {w : World} {d : Option Tmp} {x : Operand} {ty : TypeId} {pos : String} {af : Array Edge} {g : Option (Nat × Bool)} {b o : Nat} (hx : ev ρ x = .pointer (some ⟨b, o, none⟩)) : Do Tryz.prog ⟨d, .fieldAddr 26 x 0, ty, pos, af, g⟩ ρ w (.pointer (some ⟨b, o + 0, none⟩)) w := yV (n := 1) (m := 0) (by kernel_rfl) (by decide) hx
theorem fa26_1 {ρ : Env} {w : World} {d : Option Tmp} {x : Operand} {ty : TypeId} {pos : String} {af : Array Edge} {g : Option (Nat × Bool)} {b o : Nat} (hx : ev ρ x = .pointer (some ⟨b, o, none⟩)) : Do Tryz.prog ⟨d, .fieldAddr 26 x 1, ty, pos, af, g⟩ ρ w (.pointer (some ⟨b, o + 1, none⟩)) w := yV (n := 1) (m := 1) (by kernel_rfl) (by decide) hx
theorem fa26_2 {ρ : Env} {w : World} {d : Option Tmp} {x : Operand} {ty : TypeId} {pos : String} {af : Array Edge} {g : Option (Nat × Bool)} {b o : Nat} (hx : ev ρ x = .pointer (some ⟨b, o, none⟩)) : Do Tryz.prog ⟨d, .fieldAddr 26 x 2, ty, pos, af, g⟩ ρ w (.pointer (some ⟨b, o + 2, none⟩)) w := yV (n := 1) (m := 2) (by kernel_rfl) (by decide) hx
theorem fa63_0 {ρ : Env} {w : World} {d : Option Tmp} {x : Operand} {ty : TypeId} {pos : String} {af : Array Edge} {g : Option (Nat × Bool)} {b o : Nat} (hx : ev ρ x = .pointer (some ⟨b, o, none⟩)) : Do Tryz.prog ⟨d, .fieldAddr 63 x 0, ty, pos, af, g⟩ ρ w (.pointer (some ⟨b, o + 0, none⟩)) w := yV (n := 1) (m := 0) (by kernel_rfl) (by decide) hx
theorem fa70_0 {ρ : Env} {w : World} {d : Option Tmp} {x : Operand} {ty : TypeId} {pos : String} {af : Array Edge} {g : Option (Nat × Bool)} {b o : Nat} (hx : ev ρ x = .pointer (some ⟨b, o, none⟩)) : Do Tryz.prog ⟨d, .fieldAddr 70 x 0, ty, pos, af, g⟩ ρ w (.pointer (some ⟨b, o + 0, none⟩)) w := yV (n := 1) (m := 0) (by kernel_rfl) (by decide) hx
theorem fa70_1 {ρ : Env} {w : World} {d : Option Tmp} {x : Operand} {ty : TypeId} {pos : String} {af : Array Edge} {g : Option (Nat × Bool)} {b o : Nat} (hx : ev ρ x = .pointer (some ⟨b, o, none⟩)) : Do Tryz.prog ⟨d, .fieldAddr 70 x 1, ty, pos, af, g⟩ ρ w (.pointer (some ⟨b, o + 1, none⟩)) w := yV (n := 1) (m := 1) (by kernel_rfl) (by decide) hx
theorem fa70_2 {ρ : Env} {w : World} {d : Option Tmp} {x : Operand} {ty : TypeId} {pos : String} {af : Array Edge} {g : Option (Nat × Bool)} {b o : Nat} (hx : ev ρ x = .pointer (some ⟨b, o, none⟩)) : Do Tryz.prog ⟨d, .fieldAddr 70 x 2, ty, pos, af, g⟩ ρ w (.pointer (some ⟨b, o + 2, none⟩)) w := yV (n := 1) (m := 2) (by kernel_rfl) (by decide) hx
theorem fa70_3 {ρ : Env} {w : World} {d : Option Tmp} {x : Operand} {ty : TypeId} {pos : String} {af : Array Edge} {g : Option (Nat × Bool)} {b o : Nat} (hx : ev ρ x = .pointer (some ⟨b, o, none⟩)) : Do Tryz.prog ⟨d, .fieldAddr 70 x 3, ty, pos, af, g⟩ ρ w (.pointer (some ⟨b, o + 3, none⟩)) w := yV (n := 1) (m := 3) (by kernel_rfl) (by decide) hx
theorem fa70_4 {ρ : Env} {w : World} {d : Option Tmp} {x : Operand} {ty : TypeId} {pos : String} {af : Array Edge} {g : Option (Nat × Bool)} {b o : Nat} (hx : ev ρ x = .pointer (some ⟨b, o, none⟩)) : Do Tryz.prog ⟨d, .fieldAddr 70 x 4, ty, pos, af, g⟩ ρ w (.pointer (some ⟨b, o + 4, none⟩)) w := yV (n := 1) (m := 4) (by kernel_rfl) (by decide) hx
theorem fa70_5 {ρ : Env} {w : World} {d : Option Tmp} {x : Operand} {ty : TypeId} {pos : String} {af : Array Edge} {g : Option (Nat × Bool)} {b o : Nat} (hx : ev ρ x = .pointer (some ⟨b, o, none⟩)) : Do Tryz.prog ⟨d, .fieldAddr 70 x 5, ty, pos, af, g⟩ ρ w (.pointer (some ⟨b, o + 5, none⟩)) w := yV (n := 1) (m := 5) (by kernel_rfl) (by decide) hx
theorem fa70_6 {ρ : Env} {w : World} {d : Option Tmp} {x : Operand} {ty : TypeId} {pos : String} {af : Array Edge} {g : Option (Nat × Bool)} {b o : Nat} (hx : ev ρ x = .pointer (some ⟨b, o, none⟩)) : Do Tryz.prog ⟨d, .fieldAddr 70 x 6, ty, pos, af, g⟩ ρ w (.pointer (some ⟨b, o + 6, none⟩)) w := yV (n := 1) (m := 6) (by kernel_rfl) (by decide) hx
theorem fa95_0 {ρ : Env} {w : World} {d : Option Tmp} {x : Operand} {ty : TypeId} {pos : String} {af : Array Edge} {g : Option (Nat × Bool)} {b o : Nat} (hx : ev ρ x = .pointer (some ⟨b, o, none⟩)) : Do Tryz.prog ⟨d, .fieldAddr 95 x 0, ty, pos, af, g⟩ ρ w (.pointer (some ⟨b, o + 0, none⟩)) w := yV (n := 1) (m := 0) (by kernel_rfl) (by decide) hx
theorem fa95_1 {ρ : Env} {w : World} {d : Option Tmp} {x : Operand} {ty : TypeId} {pos : String} {af : Array Edge} {g : Option (Nat × Bool)} {b o : Nat} (hx : ev ρ x = .pointer (some ⟨b, o, none⟩)) : Do Tryz.prog ⟨d, .fieldAddr 95 x 1, ty, pos, af, g⟩ ρ w (.pointer (some ⟨b, o + 1, none⟩)) w := yV (n := 7) (m := 1) (by kernel_rfl) (by decide) hx
theorem fa107_0 {ρ : Env} {w : World} {d : Option Tmp} {x : Operand} {ty : TypeId} {pos : String} {af : Array Edge} {g : Option (Nat × Bool)} {b o : Nat} (hx : ev ρ x = .pointer (some ⟨b, o, none⟩)) : Do Tryz.prog ⟨d, .fieldAddr 107 x 0, ty, pos, af, g⟩ ρ w (.pointer (some ⟨b, o + 0, none⟩)) w := yV (n := 1) (m := 0) (by kernel_rfl) (by decide) hx
theorem fa107_2 {ρ : Env} {w : World} {d : Option Tmp} {x : Operand} {ty : TypeId} {pos : String} {af : Array Edge} {g : Option (Nat × Bool)} {b o : Nat} (hx : ev ρ x = .pointer (some ⟨b, o, none⟩)) : Do Tryz.prog ⟨d, .fieldAddr 107 x 2, ty, pos, af, g⟩ ρ w (.pointer (some ⟨b, o + 2, none⟩)) w := yV (n := 1) (m := 2) (by kernel_rfl) (by decide) hx
theorem fa107_3 {ρ : Env} {w : World} {d : Option Tmp} {x : Operand} {ty : TypeId} {pos : String} {af : Array Edge} {g : Option (Nat × Bool)} {b o : Nat} (hx : ev ρ x = .pointer (some ⟨b, o, none⟩)) : Do Tryz.prog ⟨d, .fieldAddr 107 x 3, ty, pos, af, g⟩ ρ w (.pointer (some ⟨b, o + 3, none⟩)) w := yV (n := 1) (m := 3) (by kernel_rfl) (by decide) hx
theorem fa109_0 {ρ : Env} {w : World} {d : Option Tmp} {x : Operand} {ty : TypeId} {pos : String} {af : Array Edge} {g : Option (Nat × Bool)} {b o : Nat} (hx : ev ρ x = .pointer (some ⟨b, o, none⟩)) : Do Tryz.prog ⟨d, .fieldAddr 109 x 0, ty, pos, af, g⟩ ρ w (.pointer (some ⟨b, o + 0, none⟩)) w := yV (n := 1) (m := 0) (by kernel_rfl) (by decide) hx
theorem fa109_1 {ρ : Env} {w : World} {d : Option Tmp} {x : Operand} {ty : TypeId} {pos : String} {af : Array Edge} {g : Option (Nat × Bool)} {b o : Nat} (hx : ev ρ x = .pointer (some ⟨b, o, none⟩)) : Do Tryz.prog ⟨d, .fieldAddr 109 x 1, ty, pos, af, g⟩ ρ w (.pointer (some ⟨b, o + 1, none⟩)) w := yV (n := 1) (m := 1) (by kernel_rfl) (by decide) hx
theorem fa109_2 {ρ : Env} {w : World} {d : Option Tmp} {x : Operand} {ty : TypeId} {pos : String} {af : Array Edge} {g : Option (Nat × Bool)} {b o : Nat} (hx : ev ρ x = .pointer (some ⟨b, o, none⟩)) : Do Tryz.prog ⟨d, .fieldAddr 109 x 2, ty, pos, af, g⟩ ρ w (.pointer (some ⟨b, o + 2, none⟩)) w := yV (n := 4) (m := 2) (by kernel_rfl) (by decide) hx
theorem fa109_3 {ρ : Env} {w : World} {d : Option Tmp} {x : Operand} {ty : TypeId} {pos : String} {af : Array Edge} {g : Option (Nat × Bool)} {b o : Nat} (hx : ev ρ x = .pointer (some ⟨b, o, none⟩)) : Do Tryz.prog ⟨d, .fieldAddr 109 x 3, ty, pos, af, g⟩ ρ w (.pointer (some ⟨b, o + 6, none⟩)) w := yV (n := 3) (m := 6) (by kernel_rfl) (by decide) hx
theorem fa111_1 {ρ : Env} {w : World} {d : Option Tmp} {x : Operand} {ty : TypeId} {pos : String} {af : Array Edge} {g : Option (Nat × Bool)} {b o : Nat} (hx : ev ρ x = .pointer (some ⟨b, o, none⟩)) : Do Tryz.prog ⟨d, .fieldAddr 111 x 1, ty, pos, af, g⟩ ρ w (.pointer (some ⟨b, o + 1, none⟩)) w := yV (n := 1) (m := 1) (by kernel_rfl) (by decide) hx
theorem fa122_0 {ρ : Env} {w : World} {d : Option Tmp} {x : Operand} {ty : TypeId} {pos : String} {af : Array Edge} {g : Option (Nat × Bool)} {b o : Nat} (hx : ev ρ x = .pointer (some ⟨b, o, none⟩)) : Do Tryz.prog ⟨d, .fieldAddr 122 x 0, ty, pos, af, g⟩ ρ w (.pointer (some ⟨b, o + 0, none⟩)) w := yV (n := 1) (m := 0) (by kernel_rfl) (by decide) hx
theorem fa122_1 {ρ : Env} {w : World} {d : Option Tmp} {x : Operand} {ty : TypeId} {pos : String} {af : Array Edge} {g : Option (Nat × Bool)} {b o : Nat} (hx : ev ρ x = .pointer (some ⟨b, o, none⟩)) : Do Tryz.prog ⟨d, .fieldAddr 122 x 1, ty, pos, af, g⟩ ρ w (.pointer (some ⟨b, o + 1, none⟩)) w := yV (n := 1) (m := 1) (by kernel_rfl) (by decide) hx
theorem fa122_2 {ρ : Env} {w : World} {d : Option Tmp} {x : Operand} {ty : TypeId} {pos : String} {af : Array Edge} {g : Option (Nat × Bool)} {b o : Nat} (hx : ev ρ x = .pointer (some ⟨b, o, none⟩)) : Do Tryz.prog ⟨d, .fieldAddr 122 x 2, ty, pos, af, g⟩ ρ w (.pointer (some ⟨b, o + 2, none⟩)) w := yV (n := 7) (m := 2) (by kernel_rfl) (by decide) hx
theorem fa129_1 {ρ : Env} {w : World} {d : Option Tmp} {x : Operand} {ty : TypeId} {pos : String} {af : Array Edge} {g : Option (Nat × Bool)} {b o : Nat} (hx : ev ρ x = .pointer (some ⟨b, o, none⟩)) : Do Tryz.prog ⟨d, .fieldAddr 129 x 1, ty, pos, af, g⟩ ρ w (.pointer (some ⟨b, o + 1, none⟩)) w := yV (n := 1) (m := 1) (by kernel_rfl) (by decide) hx
theorem fa226_0 {ρ : Env} {w : World} {d : Option Tmp} {x : Operand} {ty : TypeId} {pos : String} {af : Array Edge} {g : Option (Nat × Bool)} {b o : Nat} (hx : ev ρ x = .pointer (some ⟨b, o, none⟩)) : Do Tryz.prog ⟨d, .fieldAddr 226 x 0, ty, pos, af, g⟩ ρ w (.pointer (some ⟨b, o + 0, none⟩)) w := yV (n := 1) (m := 0) (by kernel_rfl) (by decide) hx
theorem fa226_1 {ρ : Env} {w : World} {d : Option Tmp} {x : Operand} {ty : TypeId} {pos : String} {af : Array Edge} {g : Option (Nat × Bool)} {b o : Nat} (hx : ev ρ x = .pointer (some ⟨b, o, none⟩)) : Do Tryz.prog ⟨d, .fieldAddr 226 x 1, ty, pos, af, g⟩ ρ w (.pointer (some ⟨b, o + 1, none⟩)) w := yV (n := 1) (m := 1) (by kernel_rfl) (by decide) hx
theorem fa226_2 {ρ : Env} {w : World} {d : Option Tmp} {x : Operand} {ty : TypeId} {pos : String} {af : Array Edge} {g : Option (Nat × Bool)} {b o : Nat} (hx : ev ρ x = .pointer (some ⟨b, o, none⟩)) : Do Tryz.prog ⟨d, .fieldAddr 226 x 2, ty, pos, af, g⟩ ρ w (.pointer (some ⟨b, o + 2, none⟩)) w := yV (n := 1) (m := 2) (by kernel_rfl) (by decide) hx
theorem fa226_3 {ρ : Env} {w : World} {d : Option Tmp} {x : Operand} {ty : TypeId} {pos : String} {af : Array Edge} {g : Option (Nat × Bool)} {b o : Nat} (hx : ev ρ x = .pointer (some ⟨b, o, none⟩)) : Do Tryz.prog ⟨d, .fieldAddr 226 x 3, ty, pos, af, g⟩ ρ w (.pointer (some ⟨b, o + 3, none⟩)) w := yV (n := 1) (m := 3) (by kernel_rfl) (by decide) hx
theorem fa226_4 {ρ : Env} {w : World} {d : Option Tmp} {x : Operand} {ty : TypeId} {pos : String} {af : Array Edge} {g : Option (Nat × Bool)} {b o : Nat} (hx : ev ρ x = .pointer (some ⟨b, o, none⟩)) : Do Tryz.prog ⟨d, .fieldAddr 226 x 4, ty, pos, af, g⟩ ρ w (.pointer (some ⟨b, o + 4, none⟩)) w := yV (n := 1) (m := 4) (by kernel_rfl) (by decide) hx
theorem fa226_5 {ρ : Env} {w : World} {d : Option Tmp} {x : Operand} {ty : TypeId} {pos : String} {af : Array Edge} {g : Option (Nat × Bool)} {b o : Nat} (hx : ev ρ x = .pointer (some ⟨b, o, none⟩)) : Do Tryz.prog ⟨d, .fieldAddr 226 x 5, ty, pos, af, g⟩ ρ w (.pointer (some ⟨b, o + 5, none⟩)) w := yV (n := 1) (m := 5) (by kernel_rfl) (by decide) hx
theorem fa226_6 {ρ : Env} {w : World} {d : Option Tmp} {x : Operand} {ty : TypeId} {pos : String} {af : Array Edge} {g : Option (Nat × Bool)} {b o : Nat} (hx : ev ρ x = .pointer (some ⟨b, o, none⟩)) : Do Tryz.prog ⟨d, .fieldAddr 226 x 6, ty, pos, af, g⟩ ρ w (.pointer (some ⟨b, o + 6, none⟩)) w := yV (n := 1) (m := 6) (by kernel_rfl) (by decide) hx
theorem en18 : Go.OB.Enters Tryz.prog 18 := ⟨_, Tryz.func18, rfl, by kernel_rfl⟩
theorem en20 : Go.OB.Enters Tryz.prog 20 := ⟨_, Tryz.func20, rfl, by kernel_rfl⟩
theorem en21 : Go.OB.Enters Tryz.prog 21 := ⟨_, Tryz.func21, rfl, by kernel_rfl⟩
theorem en26 : Go.OB.Enters Tryz.prog 26 := ⟨_, Tryz.func26, rfl, by kernel_rfl⟩
theorem en28 : Go.OB.Enters Tryz.prog 28 := ⟨_, Tryz.func28, rfl, by kernel_rfl⟩
theorem en29 : Go.OB.Enters Tryz.prog 29 := ⟨_, Tryz.func29, rfl, by kernel_rfl⟩
theorem en30 : Go.OB.Enters Tryz.prog 30 := ⟨_, Tryz.func30, rfl, by kernel_rfl⟩
theorem en31 : Go.OB.Enters Tryz.prog 31 := ⟨_, Tryz.func31, rfl, by kernel_rfl⟩
theorem en32 : Go.OB.Enters Tryz.prog 32 := ⟨_, Tryz.func32, rfl, by kernel_rfl⟩
theorem en33 : Go.OB.Enters Tryz.prog 33 := ⟨_, Tryz.func33, rfl, by kernel_rfl⟩
theorem en34 : Go.OB.Enters Tryz.prog 34 := ⟨_, Tryz.func34, rfl, by kernel_rfl⟩
theorem en35 : Go.OB.Enters Tryz.prog 35 := ⟨_, Tryz.func35, rfl, by kernel_rfl⟩
theorem en36 : Go.OB.Enters Tryz.prog 36 := ⟨_, Tryz.func36, rfl, by kernel_rfl⟩
theorem en37 : Go.OB.Enters Tryz.prog 37 := ⟨_, Tryz.func37, rfl, by kernel_rfl⟩
theorem en38 : Go.OB.Enters Tryz.prog 38 := ⟨_, Tryz.func38, rfl, by kernel_rfl⟩
theorem en47 : Go.OB.Enters Tryz.prog 47 := ⟨_, Tryz.func47, rfl, by kernel_rfl⟩
theorem en57 : Go.OB.Enters Tryz.prog 57 := ⟨_, Tryz.func57, rfl, by kernel_rfl⟩
theorem en58 : Go.OB.Enters Tryz.prog 58 := ⟨_, Tryz.func58, rfl, by kernel_rfl⟩
theorem en68 : Go.OB.Enters Tryz.prog 68 := ⟨_, Tryz.func68, rfl, by kernel_rfl⟩
theorem en69 : Go.OB.Enters Tryz.prog 69 := ⟨_, Tryz.func69, rfl, by kernel_rfl⟩
theorem en70 : Go.OB.Enters Tryz.prog 70 := ⟨_, Tryz.func70, rfl, by kernel_rfl⟩
theorem en71 : Go.OB.Enters Tryz.prog 71 := ⟨_, Tryz.func71, rfl, by kernel_rfl⟩
theorem en76 : Go.OB.Enters Tryz.prog 76 := ⟨_, Tryz.func76, rfl, by kernel_rfl⟩
theorem en79 : Go.OB.Enters Tryz.prog 79 := ⟨_, Tryz.func79, rfl, by kernel_rfl⟩
theorem en80 : Go.OB.Enters Tryz.prog 80 := ⟨_, Tryz.func80, rfl, by kernel_rfl⟩
theorem en81 : Go.OB.Enters Tryz.prog 81 := ⟨_, Tryz.func81, rfl, by kernel_rfl⟩
theorem en82 : Go.OB.Enters Tryz.prog 82 := ⟨_, Tryz.func82, rfl, by kernel_rfl⟩
theorem en83 : Go.OB.Enters Tryz.prog 83 := ⟨_, Tryz.func83, rfl, by kernel_rfl⟩
theorem en84 : Go.OB.Enters Tryz.prog 84 := ⟨_, Tryz.func84, rfl, by kernel_rfl⟩
theorem en85 : Go.OB.Enters Tryz.prog 85 := ⟨_, Tryz.func85, rfl, by kernel_rfl⟩
theorem en86 : Go.OB.Enters Tryz.prog 86 := ⟨_, Tryz.func86, rfl, by kernel_rfl⟩
theorem en87 : Go.OB.Enters Tryz.prog 87 := ⟨_, Tryz.func87, rfl, by kernel_rfl⟩
theorem en88 : Go.OB.Enters Tryz.prog 88 := ⟨_, Tryz.func88, rfl, by kernel_rfl⟩
theorem en89 : Go.OB.Enters Tryz.prog 89 := ⟨_, Tryz.func89, rfl, by kernel_rfl⟩
theorem en90 : Go.OB.Enters Tryz.prog 90 := ⟨_, Tryz.func90, rfl, by kernel_rfl⟩
theorem en91 : Go.OB.Enters Tryz.prog 91 := ⟨_, Tryz.func91, rfl, by kernel_rfl⟩
theorem en92 : Go.OB.Enters Tryz.prog 92 := ⟨_, Tryz.func92, rfl, by kernel_rfl⟩
theorem en93 : Go.OB.Enters Tryz.prog 93 := ⟨_, Tryz.func93, rfl, by kernel_rfl⟩
theorem en94 : Go.OB.Enters Tryz.prog 94 := ⟨_, Tryz.func94, rfl, by kernel_rfl⟩
theorem en95 : Go.OB.Enters Tryz.prog 95 := ⟨_, Tryz.func95, rfl, by kernel_rfl⟩
theorem en96 : Go.OB.Enters Tryz.prog 96 := ⟨_, Tryz.func96, rfl, by kernel_rfl⟩
theorem en97 : Go.OB.Enters Tryz.prog 97 := ⟨_, Tryz.func97, rfl, by kernel_rfl⟩
theorem en98 : Go.OB.Enters Tryz.prog 98 := ⟨_, Tryz.func98, rfl, by kernel_rfl⟩
theorem en99 : Go.OB.Enters Tryz.prog 99 := ⟨_, Tryz.func99, rfl, by kernel_rfl⟩
theorem en106 : Go.OB.Enters Tryz.prog 106 := ⟨_, Tryz.func106, rfl, by kernel_rfl⟩
theorem en112 : Go.OB.Enters Tryz.prog 112 := ⟨_, Tryz.func112, rfl, by kernel_rfl⟩
theorem en120 : Go.OB.Enters Tryz.prog 120 := ⟨_, Tryz.func120, rfl, by kernel_rfl⟩
theorem en121 : Go.OB.Enters Tryz.prog 121 := ⟨_, Tryz.func121, rfl, by kernel_rfl⟩
theorem en122 : Go.OB.Enters Tryz.prog 122 := ⟨_, Tryz.func122, rfl, by kernel_rfl⟩
theorem en123 : Go.OB.Enters Tryz.prog 123 := ⟨_, Tryz.func123, rfl, by kernel_rfl⟩
theorem en124 : Go.OB.Enters Tryz.prog 124 := ⟨_, Tryz.func124, rfl, by kernel_rfl⟩
theorem en129 : Go.OB.Enters Tryz.prog 129 := ⟨_, Tryz.func129, rfl, by kernel_rfl⟩
theorem en130 : Go.OB.Enters Tryz.prog 130 := ⟨_, Tryz.func130, rfl, by kernel_rfl⟩
theorem en131 : Go.OB.Enters Tryz.prog 131 := ⟨_, Tryz.func131, rfl, by kernel_rfl⟩
theorem en132 : Go.OB.Enters Tryz.prog 132 := ⟨_, Tryz.func132, rfl, by kernel_rfl⟩
theorem en136 : Go.OB.Enters Tryz.prog 136 := ⟨_, Tryz.func136, rfl, by kernel_rfl⟩
theorem en142 : Go.OB.Enters Tryz.prog 142 := ⟨_, Tryz.func142, rfl, by kernel_rfl⟩
theorem en143 : Go.OB.Enters Tryz.prog 143 := ⟨_, Tryz.func143, rfl, by kernel_rfl⟩
theorem en144 : Go.OB.Enters Tryz.prog 144 := ⟨_, Tryz.func144, rfl, by kernel_rfl⟩
theorem en145 : Go.OB.Enters Tryz.prog 145 := ⟨_, Tryz.func145, rfl, by kernel_rfl⟩
theorem en146 : Go.OB.Enters Tryz.prog 146 := ⟨_, Tryz.func146, rfl, by kernel_rfl⟩
theorem en147 : Go.OB.Enters Tryz.prog 147 := ⟨_, Tryz.func147, rfl, by kernel_rfl⟩
theorem en148 : Go.OB.Enters Tryz.prog 148 := ⟨_, Tryz.func148, rfl, by kernel_rfl⟩
theorem en149 : Go.OB.Enters Tryz.prog 149 := ⟨_, Tryz.func149, rfl, by kernel_rfl⟩
theorem en150 : Go.OB.Enters Tryz.prog 150 := ⟨_, Tryz.func150, rfl, by kernel_rfl⟩
theorem en151 : Go.OB.Enters Tryz.prog 151 := ⟨_, Tryz.func151, rfl, by kernel_rfl⟩
theorem en152 : Go.OB.Enters Tryz.prog 152 := ⟨_, Tryz.func152, rfl, by kernel_rfl⟩
theorem en153 : Go.OB.Enters Tryz.prog 153 := ⟨_, Tryz.func153, rfl, by kernel_rfl⟩
theorem en155 : Go.OB.Enters Tryz.prog 155 := ⟨_, Tryz.func155, rfl, by kernel_rfl⟩
theorem en156 : Go.OB.Enters Tryz.prog 156 := ⟨_, Tryz.func156, rfl, by kernel_rfl⟩
theorem en157 : Go.OB.Enters Tryz.prog 157 := ⟨_, Tryz.func157, rfl, by kernel_rfl⟩
theorem en166 : Go.OB.Enters Tryz.prog 166 := ⟨_, Tryz.func166, rfl, by kernel_rfl⟩
theorem en174 : Go.OB.Enters Tryz.prog 174 := ⟨_, Tryz.func174, rfl, by kernel_rfl⟩
theorem en175 : Go.OB.Enters Tryz.prog 175 := ⟨_, Tryz.func175, rfl, by kernel_rfl⟩
theorem en176 : Go.OB.Enters Tryz.prog 176 := ⟨_, Tryz.func176, rfl, by kernel_rfl⟩
theorem en177 : Go.OB.Enters Tryz.prog 177 := ⟨_, Tryz.func177, rfl, by kernel_rfl⟩
theorem en178 : Go.OB.Enters Tryz.prog 178 := ⟨_, Tryz.func178, rfl, by kernel_rfl⟩
theorem en179 : Go.OB.Enters Tryz.prog 179 := ⟨_, Tryz.func179, rfl, by kernel_rfl⟩
theorem en180 : Go.OB.Enters Tryz.prog 180 := ⟨_, Tryz.func180, rfl, by kernel_rfl⟩
theorem en181 : Go.OB.Enters Tryz.prog 181 := ⟨_, Tryz.func181, rfl, by kernel_rfl⟩
theorem en188 : Go.OB.Enters Tryz.prog 188 := ⟨_, Tryz.func188, rfl, by kernel_rfl⟩
theorem en193 : Go.OB.Enters Tryz.prog 193 := ⟨_, Tryz.func193, rfl, by kernel_rfl⟩
theorem en194 : Go.OB.Enters Tryz.prog 194 := ⟨_, Tryz.func194, rfl, by kernel_rfl⟩
theorem en195 : Go.OB.Enters Tryz.prog 195 := ⟨_, Tryz.func195, rfl, by kernel_rfl⟩
theorem en196 : Go.OB.Enters Tryz.prog 196 := ⟨_, Tryz.func196, rfl, by kernel_rfl⟩
theorem en200 : Go.OB.Enters Tryz.prog 200 := ⟨_, Tryz.func200, rfl, by kernel_rfl⟩
theorem en208 : Go.OB.Enters Tryz.prog 208 := ⟨_, Tryz.func208, rfl, by kernel_rfl⟩
theorem en213 : Go.OB.Enters Tryz.prog 213 := ⟨_, Tryz.func213, rfl, by kernel_rfl⟩
theorem en214 : Go.OB.Enters Tryz.prog 214 := ⟨_, Tryz.func214, rfl, by kernel_rfl⟩
theorem en215 : Go.OB.Enters Tryz.prog 215 := ⟨_, Tryz.func215, rfl, by kernel_rfl⟩
theorem en216 : Go.OB.Enters Tryz.prog 216 := ⟨_, Tryz.func216, rfl, by kernel_rfl⟩
theorem en217 : Go.OB.Enters Tryz.prog 217 := ⟨_, Tryz.func217, rfl, by kernel_rfl⟩
theorem en218 : Go.OB.Enters Tryz.prog 218 := ⟨_, Tryz.func218, rfl, by kernel_rfl⟩
theorem en219 : Go.OB.Enters Tryz.prog 219 := ⟨_, Tryz.func219, rfl, by kernel_rfl⟩
theorem en257 : Go.OB.Enters Tryz.prog 257 := ⟨_, Tryz.func257, rfl, by kernel_rfl⟩
theorem mixed : Tryz.prog.follows .mixedOrders = true := by kernel_rfl
abbrev S_event_small (f : Cond → Int → Int → Option (Bool × Int)) : Prop := ∀ (p0 : Cond) (p1 : Int) (p2 : Int) (v1 : Value) (b3 : Nat) (r : Bool × Int) (_ : f p0 p1 p2 = some r) (O S : List Nat) (w : World) (_ : Hd O w w S [.blk b3 [.int .i64 p2] 3, .fz (.sl rCond v1 p0.Kids)]),
  Calls Tryz.prog 80 ([.agg [.int .i64 p0.Kind, .string (bs p0.Name), .string (bs p0.Other), .int .i64 p0.Op, .int .i64 p0.N, .int .i64 p0.Frames, v1].toArray, .int .i64 p1, .pointer (some ⟨b3, 0, none⟩)] : List Value).toArray w fun e w' => e = .returned (.bool r.1) ∧ Hd O w w' S [.blk b3 [.int .i64 r.2] 3]
set_option maxHeartbeats 4000000 in
set_option maxRecDepth 100000 in
theorem F_event_small_B_w (rfC : Cond → Int → Int → Option (Bool × Int)) (rhC : S_event_small rfC) (p0 : Cond) (p1 : Int) (p2 : Int) (v1 : Value) (b3 : Nat) (r : Bool × Int) (hF : F_event_small_B rfC p0 p1 p2 = some r) (O S : List Nat) (w : World) (H : Hd O w w S [.blk b3 [.int .i64 p2] 3, .fz (.sl rCond v1 p0.Kids)]) :
  Calls Tryz.prog 80 ([.agg [.int .i64 p0.Kind, .string (bs p0.Name), .string (bs p0.Other), .int .i64 p0.Op, .int .i64 p0.N, .int .i64 p0.Frames, v1].toArray, .int .i64 p1, .pointer (some ⟨b3, 0, none⟩)] : List Value).toArray w fun e w' => e = .returned (.bool r.1) ∧ Hd O w w' S [.blk b3 [.int .i64 r.2] 3] := by
 unfold F_event_small_B at hF
 refine zY 36 Tryz.func80 rfl rfl rfl ?_
 refine zC fun K5 hK5 => ?_
 refine zB ?_
 refine yZ rfl rfl (wF (cs := [.int .i64 p0.Kind, .string (bs p0.Name), .string (bs p0.Other), .int .i64 p0.Op, .int .i64 p0.N, .int .i64 p0.Frames, v1]) rfl H) ?_
 rintro _ w8 ⟨b6, rfl, H⟩
 refine zI (.bool false) ?_
 refine (zD (zA (hK5 _ _ ?_)))
 refine zC fun K9 hK9 => ?_
 refine zB ?_
 refine zK (.pointer (some ⟨b3, 0, none⟩)) ?_
 refine zH (yM rfl) ?_
 refine zH (zO one3 rfl (Cells.get (Blk.cells (H.item (i := 0) rfl)) (i := 0) rfl)) ?_
 obtain ⟨x10, e11, hF⟩ := zF hF
 refine zH (xP (a := p2) (b := 1) rfl rfl e11) ?_
 refine zH (yM rfl) ?_
 refine xH rfl (wH H 0 rfl sz3 rfl (v := .int .i64 x10) rfl rfl rfl) ?_
 rintro w12 H
 refine (zD (zA (hK9 _ _ ?_)))
 refine zC fun K23 hK23 => ?_
 obtain ⟨g29, hF, hK31⟩ := zG hF
 refine yL [14, 15, 16, 17, 18, 19, 20, 21] (fun (g : Unit) => [(21, .bool g29)]) (fun g wl => Hd O w wl S [.blk b3 [.int .i64 x10] 3, .fz (.sl rCond v1 p0.Kids), .blk b6 [.int .i64 p0.Kind, .string (bs p0.Name), .string (bs p0.Other), .int .i64 p0.Op, .int .i64 p0.N, .int .i64 p0.Frames, v1] 70]) ?_ ?_
 ·skip
  refine zB ?_
  refine zK (.int .i64 p1) ?_
  obtain ⟨x32, e33, hF⟩ := zF hF
  refine zH (zM (yR (a := p1) (b := 0) rfl rfl) e33) ?_
  refine yK (b := x32) rfl rfl rfl (fun c34 => ?_) (fun c34 => ?_)
  ·have hF := zQ c34 hF
   refine yC ?_
   refine yC ?_
   refine yC ?_
   refine yC ?_
   refine zH (yI (v := .bool true) rfl rfl) ?_
   obtain rfl := someI hF
   exact (zD (zA (meet ⟨(), (zJ rfl zL), H.pick [0, 1, 2] (by decide)⟩)))
  have hF := zS c34 hF
  refine zK (.pointer (some ⟨b3, 0, none⟩)) ?_
  refine zH (yM rfl) ?_
  refine zH (zO one3 rfl (Cells.get (Blk.cells (H.item (i := 0) rfl)) (i := 0) rfl)) ?_
  obtain ⟨x35, e36, hF⟩ := zF hF
  refine zH (zM (Do_gtr (a := x10) (b := 200) rfl rfl) e36) ?_
  refine zH (yF (v := .bool x35) rfl rfl) ?_
  obtain rfl := someI hF
  exact (zD (zA (meet ⟨(), (zJ rfl zL), H.pick [0, 1, 2] (by decide)⟩)))
 rintro _ ρ w30 H
 have hF := hK31
 refine yA (b := g29) rfl (fun c37 => ?_) (fun c37 => ?_)
 ·have hF := zQ c37 hF
  refine zC fun K38 hK38 => ?_
  refine zB ?_
  refine zI (.bool false) ?_
  refine (zD (zA (hK38 _ _ ?_)))
  obtain rfl := someI hF
  refine (yB (zW (post1 (v1 := .bool false) rfl rfl ?_)))
  exact ⟨rfl, H.pick [0] (by decide)⟩
 have hF := zS c37 hF
 refine (zX (zA (hK23 _ _ ?_)))
 obtain ⟨k201, ek202, hF⟩ := xQ hF
 refine yL [6, 8, 22, 23, 24, 25, 26, 27, 28, 29, 30, 31, 32, 33, 34, 35] (fun (g : Int) => []) (fun g wl => Hd O w wl S [.blk b3 [.int .i64 g] 3] ∧ k201 g = some r) ?_ ?_
 ·skip
  refine zC fun K203 hK203 => ?_
  refine zB ?_
  refine zH (fa70_6 rfl) ?_
  refine zH (zO one68 rfl (Cells.get (Blk.cells (H.item (i := 2) rfl)) (i := 6) rfl)) ?_
  obtain ⟨x204, e205, hF⟩ := zF hF
  obtain ⟨a206, c207, q208⟩ := SlF.len ((H.item (i := 1) rfl))
  refine zH (yN (xM u68 q208) (congrArg (Value.int .i64) e205)) ?_
  refine zK (.int .i64 0) ?_
  refine (zD (zA (hK203 _ _ ?_)))
  refine yG ?_
  unfold F_event_small_B_L1 at hF
  obtain ⟨B359, n360, eB361, hF⟩ := yS hF
  refine xE [6, 8, 25, 26, 27, 28, 29, 30, 31, 32, 33, 34, 35] (fun (g : Nat × Int × Int) => [(25, .int .i64 g.2.1)]) (fun g wl => Hd O w wl S [.blk b3 [.int .i64 g.2.2] 3, .fz (.sl rCond v1 p0.Kids)] ∧ loopN B359 g.1 (g.2.1, g.2.2) = some r) (fun g => g.1) (n360, 0, x10) (zJ rfl zL) ⟨H.pick [0, 1] (by decide), hF⟩ ?_
  clear H hF
  rintro ⟨n360, g357, g358⟩ ρ w363 ⟨H, hF⟩
  obtain ⟨n364, rfl, hF⟩ := yX hF
  have hF := yY eB361 hF
  refine zC fun K365 hK365 => ?_
  refine zB ?_
  obtain ⟨x366, e367, hF⟩ := zF hF
  refine zH (zM (xI (a := g357) (b := x204) rfl rfl) e367) ?_
  refine (zD (zA (hK365 _ _ ?_)))
  refine zC fun K369 hK369 => ?_
  refine yA (b := x366) rfl (fun c370 => ?_) (fun c370 => ?_)
  ·have hF := zQ c370 hF
   refine (zX (zA (hK369 _ _ ?_)))
   refine zC fun K403 hK403 => ?_
   refine yG ?_
   refine zC fun K404 hK404 => ?_
   refine zB ?_
   obtain ⟨x405, e406, hF⟩ := zG hF
   obtain ⟨b407, o408, c409, cs410, q411, h414, h412, h413, h415⟩ := rd_at (H.item (i := 1) rfl) e406
   obtain ⟨v416, rfl, h417⟩ := wI h414
   have H := H.fzs [.at b407 (o408 + g357.toNat * 7) _, .sl rCond v416 x405.Kids] ⟨⟨h412, h413, h415⟩, h417, trivial⟩
   refine zH (wC u68 sz70 q411 rfl (yP e406).1 (yP e406).2.1 rfl rfl) ?_
   refine zH (yN (yJ (cs := [.int .i64 x405.Kind, .string (bs x405.Name), .string (bs x405.Other), .int .i64 x405.Op, .int .i64 x405.N, .int .i64 x405.Frames, v416]) agg70 rfl sz70 rfl (H.item (i := 2) rfl).2.2) rfl) ?_
   refine yZ rfl rfl (xN zero70 H) ?_
   rintro _ w422 ⟨b420, rfl, H⟩
   refine xH rfl (xC (vs := [.int .i64 x405.Kind, .string (bs x405.Name), .string (bs x405.Other), .int .i64 x405.Op, .int .i64 x405.N, .int .i64 x405.Frames, v416]) H 4 rfl sz70 rfl rfl rfl ⟨rfl, rfl, rfl, rfl, rfl, rfl, (slf_one (H.item (i := 3) rfl)), trivial⟩ rfl) ?_
   rintro w423 H
   refine (zD (zA (hK404 _ _ ?_)))
   refine zC fun K424 hK424 => ?_
   refine zB ?_
   refine zH (yN (yJ (cs := [.int .i64 x405.Kind, .string (bs x405.Name), .string (bs x405.Other), .int .i64 x405.Op, .int .i64 x405.N, .int .i64 x405.Frames, v416]) agg70 rfl sz70 rfl (Blk.cells (H.item (i := 4) rfl))) rfl) ?_
   refine zK (.int .i64 p1) ?_
   obtain ⟨x425, e426, hF⟩ := zF hF
   refine zH (Do_sub (a := p1) (b := 1) rfl rfl e426) ?_
   refine zK (.pointer (some ⟨b3, 0, none⟩)) ?_
   obtain ⟨⟨x427, x428⟩, e429, hF⟩ := zG hF
   refine zZ rfl rfl (zT en80 rfl) (rhC x405 x425 g358 v416 b3 _ e429 _ _ _ (H.enter [0] [3] (by decide) rfl)) ?_
   rintro _ w430 ⟨rfl, G431⟩
   have H : Hd O _ w430 _ [.fz (.sl rCond v1 p0.Kids), .fz (.at b407 (o408 + g357.toNat * 7) [.int .i64 x405.Kind, .string (bs x405.Name), .string (bs x405.Other), .int .i64 x405.Op, .int .i64 x405.N, .int .i64 x405.Frames, v416]), .fz (.sl rCond v416 x405.Kids), .blk b420 [.int .i64 x405.Kind, .string (bs x405.Name), .string (bs x405.Other), .int .i64 x405.Op, .int .i64 x405.N, .int .i64 x405.Frames, v416] 70, .blk b3 [.int .i64 x428] 3] := H.back [0] [3] rfl G431
   refine ⟨_, rfl, ?_⟩
   obtain ⟨x432, e433, hF⟩ := zF hF
   refine zH (zM (wJ (p := x427) rfl) e433) ?_
   refine (zD (zA (hK424 _ _ ?_)))
   refine yA (b := x432) rfl (fun c434 => ?_) (fun c434 => ?_)
   ·have hF := zQ c434 hF
    refine zC fun K435 hK435 => ?_
    refine zB ?_
    refine zI (.bool false) ?_
    refine (zD (zA (hK435 _ _ ?_)))
    obtain rfl := someI hF
    refine (yB (yE (zW (zW (yE (zW (post1 (v1 := .bool false) rfl rfl ?_)))))))
    exact ⟨rfl, H.pick [4] (by decide)⟩
   have hF := zS c434 hF
   refine (zX (yT (zA (hK403 _ _ ?_))))
   refine zB ?_
   obtain ⟨x436, e437, hF⟩ := zF hF
   refine zH (xP (a := g357) (b := 1) rfl rfl e437) ?_
   refine zK (.int .i64 x436) ?_
   exact (zD (zA (meet ⟨(n364, x436, x428), (zJ rfl zL), ⟨H.pick [4, 0] (by decide), hF⟩, Nat.lt_succ_self _⟩)))
  have hF := zS c370 hF
  exact (xJ (yO (yO (xB (zA (meet ⟨g358, zL, ⟨H.pick [0] (by decide), hF⟩⟩))))))
 rintro g199 ρ w200 ⟨H, hF⟩
 have hF := wB ek202 hF
 refine zC fun K438 hK438 => ?_
 refine zB ?_
 refine zI (.bool true) ?_
 refine (zD (zA (hK438 _ _ ?_)))
 obtain rfl := someI hF
 refine (yB (post1 (v1 := .bool true) rfl rfl ?_))
 exact ⟨rfl, H.pick [0] (by decide)⟩
theorem F_event_small_s : S_event_small (F_event_small) := by
 have h : ∀ n, S_event_small (F_event_small_R n) := by
  intro n
  induction n with
  | zero => intro p0 p1 p2 v1 b3 r hF; cases hF
  | succ n ih => intro p0 p1 p2 v1 b3 r hF; exact F_event_small_B_w (F_event_small_R n) ih p0 p1 p2 v1 b3 r hF
 exact h FU
set_option maxHeartbeats 4000000 in
theorem F_event_within_w (p0 : Int) (p1 : Int) (p2 : Int) (r : Bool) (hF : F_event_within p0 p1 p2 = some r) (O S : List Nat) (w : World) (H : Hd O w w S []) :
  Calls Tryz.prog 76 ([.int .i64 p0, .int .i64 p1, .int .i64 p2] : List Value).toArray w fun e w' => e = .returned (.bool r) ∧ Hd O w w' S [] := by
 unfold F_event_within at hF
 refine zY 15 Tryz.func76 rfl rfl rfl ?_
 refine zC fun K1 hK1 => ?_
 refine zB ?_
 refine zI (.bool false) ?_
 refine (zD (zA (hK1 _ _ ?_)))
 obtain ⟨g7, hF, hK9⟩ := zG hF
 refine yL [6, 7, 8, 9, 10, 11, 12, 13, 14] (fun (g : Unit) => [(6, .bool g7)]) (fun g wl => Hd O w wl S []) ?_ ?_
 ·skip
  refine zB ?_
  refine zK (.int .i64 p0) ?_
  refine zK (.int .i64 p1) ?_
  obtain ⟨x10, e11, hF⟩ := zF hF
  refine zH (zM (Do_geq (a := p0) (b := p1) rfl rfl) e11) ?_
  refine yK (b := x10) rfl rfl rfl (fun c12 => ?_) (fun c12 => ?_)
  ·have hF := zQ c12 hF
   refine zK (.int .i64 p0) ?_
   refine zK (.int .i64 p2) ?_
   obtain ⟨x13, e14, hF⟩ := zF hF
   refine zH (zM (Do_leq (a := p0) (b := p2) rfl rfl) e14) ?_
   refine zH (yI (v := .bool x13) rfl rfl) ?_
   refine zI (.bool x13) ?_
   obtain rfl := someI hF
   exact (zD (zA (meet ⟨(), (zJ rfl zL), H.pick [] (by decide)⟩)))
  have hF := zS c12 hF
  refine yC ?_
  refine yC ?_
  refine yC ?_
  refine zH (yF (v := .bool false) rfl rfl) ?_
  refine zI (.bool false) ?_
  obtain rfl := someI hF
  exact (zD (zA (meet ⟨(), (zJ rfl zL), H.pick [] (by decide)⟩)))
 rintro _ ρ w8 H
 have hF := hK9
 obtain rfl := someI hF
 refine (yB (post1 (v1 := .bool g7) rfl rfl ?_))
 exact ⟨rfl, H.pick [] (by decide)⟩
set_option maxHeartbeats 4000000 in
set_option maxRecDepth 100000 in
theorem F_event_nameByte_w (p0 : Int) (r : Bool) (hF : F_event_nameByte p0 = some r) (O S : List Nat) (w : World) (H : Hd O w w S []) :
  Calls Tryz.prog 145 ([.int .u8 p0] : List Value).toArray w fun e w' => e = .returned (.bool r) ∧ Hd O w w' S [] := by
 unfold F_event_nameByte at hF
 refine zY 21 Tryz.func145 rfl rfl rfl ?_
 refine zC fun K1 hK1 => ?_
 refine zB ?_
 refine zI (.bool false) ?_
 refine (zD (zA (hK1 _ _ ?_)))
 obtain ⟨g22, hF, hK24⟩ := zG hF
 refine yL [2, 3, 4, 5, 6, 7, 8, 9, 10, 11, 12, 13, 14, 15, 16, 17, 18, 19, 20] (fun (g : Unit) => [(2, .bool g22)]) (fun g wl => Hd O w wl S []) ?_ ?_
 ·skip
  refine zB ?_
  refine zK (.int .u8 p0) ?_
  obtain ⟨x25, e26, hF⟩ := zF hF
  refine zH (zM (Do_geq (a := p0) (b := 97) rfl rfl) e26) ?_
  obtain ⟨j27, hF, hK28⟩ := zG hF
  refine RL_cutS 4 [5, 6, 7, 8] [(8, .bool j27)] (fun wl => Hd O w wl S []) ?_ ?_
  ·skip
   refine yK (b := x25) rfl rfl rfl (fun c30 => ?_) (fun c30 => ?_)
   ·have hF := zQ c30 hF
    refine zK (.int .u8 p0) ?_
    obtain ⟨x31, e32, hF⟩ := zF hF
    refine zH (zM (Do_leq (a := p0) (b := 122) rfl rfl) e32) ?_
    refine zH (yI (v := .bool x31) rfl rfl) ?_
    obtain rfl := someI hF
    exact zD (zA (meet ⟨(zJ rfl zL), H.pick [] (by decide)⟩))
   have hF := zS c30 hF
   refine yC ?_
   refine yC ?_
   refine zH (yF (v := .bool false) rfl rfl) ?_
   obtain rfl := someI hF
   exact zD (zA (meet ⟨(zJ rfl zL), H.pick [] (by decide)⟩))
  rintro ρ w29 H
  have hF := hK28
  obtain ⟨j33, hF, hK34⟩ := zG hF
  refine RL_cutS 8 [9, 10, 11, 12, 13, 14, 15, 16] [(16, .bool j33)] (fun wl => Hd O w wl S []) ?_ ?_
  ·skip
   refine yK (b := j27) rfl rfl rfl (fun c36 => ?_) (fun c36 => ?_)
   ·have hF := zQ c36 hF
    refine yC ?_
    refine yC ?_
    refine yC ?_
    refine yC ?_
    refine yC ?_
    refine yC ?_
    refine zH (yI (v := .bool true) rfl rfl) ?_
    obtain rfl := someI hF
    exact zD (zA (meet ⟨(zJ rfl zL), H.pick [] (by decide)⟩))
   have hF := zS c36 hF
   refine zK (.int .u8 p0) ?_
   obtain ⟨x37, e38, hF⟩ := zF hF
   refine zH (zM (Do_geq (a := p0) (b := 48) rfl rfl) e38) ?_
   refine yK (b := x37) rfl rfl rfl (fun c39 => ?_) (fun c39 => ?_)
   ·have hF := zQ c39 hF
    refine zK (.int .u8 p0) ?_
    obtain ⟨x40, e41, hF⟩ := zF hF
    refine zH (zM (Do_leq (a := p0) (b := 57) rfl rfl) e41) ?_
    refine zH (yI (v := .bool x40) rfl rfl) ?_
    refine zH (yF (v := .bool x40) rfl rfl) ?_
    obtain rfl := someI hF
    exact zD (zA (meet ⟨(zJ rfl zL), H.pick [] (by decide)⟩))
   have hF := zS c39 hF
   refine yC ?_
   refine yC ?_
   refine zH (yF (v := .bool false) rfl rfl) ?_
   refine zH (yF (v := .bool false) rfl rfl) ?_
   obtain rfl := someI hF
   exact zD (zA (meet ⟨(zJ rfl zL), H.pick [] (by decide)⟩))
  rintro ρ w35 H
  have hF := hK34
  refine yK (b := j33) rfl rfl rfl (fun c42 => ?_) (fun c42 => ?_)
  ·have hF := zQ c42 hF
   refine yC ?_
   refine yC ?_
   refine zH (yI (v := .bool true) rfl rfl) ?_
   refine zI (.bool true) ?_
   obtain rfl := someI hF
   exact (zD (zA (meet ⟨(), (zJ rfl zL), H.pick [] (by decide)⟩)))
  have hF := zS c42 hF
  refine zK (.int .u8 p0) ?_
  obtain ⟨x43, e44, hF⟩ := zF hF
  refine zH (zM (yR (a := p0) (b := 45) rfl rfl) e44) ?_
  refine zH (yF (v := .bool x43) rfl rfl) ?_
  refine zI (.bool x43) ?_
  obtain rfl := someI hF
  exact (zD (zA (meet ⟨(), (zJ rfl zL), H.pick [] (by decide)⟩)))
 rintro _ ρ w23 H
 have hF := hK24
 obtain rfl := someI hF
 refine (yB (post1 (v1 := .bool g22) rfl rfl ?_))
 exact ⟨rfl, H.pick [] (by decide)⟩
set_option maxHeartbeats 4000000 in
set_option maxRecDepth 100000 in
theorem F_event_isWord_w (p0 : Str) (r : Bool) (hF : F_event_isWord p0 = some r) (O S : List Nat) (w : World) (H : Hd O w w S []) :
  Calls Tryz.prog 144 ([.string (bs p0)] : List Value).toArray w fun e w' => e = .returned (.bool r) ∧ Hd O w w' S [] := by
 unfold F_event_isWord at hF
 refine zY 21 Tryz.func144 rfl rfl rfl ?_
 refine zC fun K1 hK1 => ?_
 refine zB ?_
 refine zI (.bool false) ?_
 refine (zD (zA (hK1 _ _ ?_)))
 refine zC fun K70 hK70 => ?_
 refine zC fun K71 hK71 => ?_
 refine zB ?_
 refine zK (.string (bs p0)) ?_
 refine (zD (zA (hK71 _ _ ?_)))
 refine yG ?_
 obtain ⟨g134, hF, hK136⟩ := zG hF
 refine yL [4, 5, 6, 7, 8, 9, 10, 11, 12, 13, 14, 15, 16, 17, 18, 19, 20] (fun (g : Unit) => [(4, .bool g134)]) (fun g wl => Hd O w wl S []) ?_ ?_
 ·skip
  refine zC fun K137 hK137 => ?_
  refine zB ?_
  obtain ⟨x138, e139, hF⟩ := zF hF
  refine zH (zM (xW (s1 := p0) (s2 := [112, 104, 97, 115, 101]) rfl rfl) e139) ?_
  refine zI (.bool x138) ?_
  refine (zD (zA (hK137 _ _ ?_)))
  refine yA (b := x138) rfl (fun c140 => ?_) (fun c140 => ?_)
  ·have hF := zQ c140 hF
   obtain rfl := someI hF
   exact (zX (zA (meet ⟨(), (zJ rfl zL), H.pick [] (by decide)⟩)))
  have hF := zS c140 hF
  refine zC fun K141 hK141 => ?_
  refine zB ?_
  obtain ⟨x142, e143, hF⟩ := zF hF
  refine zH (zM (xW (s1 := p0) (s2 := [109, 111, 118, 101]) rfl rfl) e143) ?_
  refine zI (.bool x142) ?_
  refine (zD (zA (hK141 _ _ ?_)))
  refine yA (b := x142) rfl (fun c144 => ?_) (fun c144 => ?_)
  ·have hF := zQ c144 hF
   obtain rfl := someI hF
   exact (zX (zA (meet ⟨(), (zJ rfl zL), H.pick [] (by decide)⟩)))
  have hF := zS c144 hF
  refine zC fun K145 hK145 => ?_
  refine zB ?_
  obtain ⟨x146, e147, hF⟩ := zF hF
  refine zH (zM (xW (s1 := p0) (s2 := [114, 117, 108, 101]) rfl rfl) e147) ?_
  refine zI (.bool x146) ?_
  refine (zD (zA (hK145 _ _ ?_)))
  refine yA (b := x146) rfl (fun c148 => ?_) (fun c148 => ?_)
  ·have hF := zQ c148 hF
   obtain rfl := someI hF
   exact (zX (zA (meet ⟨(), (zJ rfl zL), H.pick [] (by decide)⟩)))
  have hF := zS c148 hF
  refine zC fun K149 hK149 => ?_
  refine zB ?_
  obtain ⟨x150, e151, hF⟩ := zF hF
  refine zH (zM (xW (s1 := p0) (s2 := [105, 102]) rfl rfl) e151) ?_
  refine zI (.bool x150) ?_
  refine (zD (zA (hK149 _ _ ?_)))
  refine yA (b := x150) rfl (fun c152 => ?_) (fun c152 => ?_)
  ·have hF := zQ c152 hF
   obtain rfl := someI hF
   exact (zX (zA (meet ⟨(), (zJ rfl zL), H.pick [] (by decide)⟩)))
  have hF := zS c152 hF
  refine zC fun K153 hK153 => ?_
  refine zB ?_
  obtain ⟨x154, e155, hF⟩ := zF hF
  refine zH (zM (xW (s1 := p0) (s2 := [111, 114]) rfl rfl) e155) ?_
  refine zI (.bool x154) ?_
  refine (zD (zA (hK153 _ _ ?_)))
  refine yA (b := x154) rfl (fun c156 => ?_) (fun c156 => ?_)
  ·have hF := zQ c156 hF
   obtain rfl := someI hF
   exact (zX (zA (meet ⟨(), (zJ rfl zL), H.pick [] (by decide)⟩)))
  have hF := zS c156 hF
  refine zC fun K157 hK157 => ?_
  refine zB ?_
  obtain ⟨x158, e159, hF⟩ := zF hF
  refine zH (zM (xW (s1 := p0) (s2 := [97, 110, 100]) rfl rfl) e159) ?_
  refine zI (.bool x158) ?_
  refine (zD (zA (hK157 _ _ ?_)))
  refine yA (b := x158) rfl (fun c160 => ?_) (fun c160 => ?_)
  ·have hF := zQ c160 hF
   obtain rfl := someI hF
   exact (zX (zA (meet ⟨(), (zJ rfl zL), H.pick [] (by decide)⟩)))
  have hF := zS c160 hF
  refine zC fun K161 hK161 => ?_
  refine zB ?_
  obtain ⟨x162, e163, hF⟩ := zF hF
  refine zH (zM (xW (s1 := p0) (s2 := [116, 114, 117, 101]) rfl rfl) e163) ?_
  refine zI (.bool x162) ?_
  refine (zD (zA (hK161 _ _ ?_)))
  refine yA (b := x162) rfl (fun c164 => ?_) (fun c164 => ?_)
  ·have hF := zQ c164 hF
   obtain rfl := someI hF
   exact (zX (zA (meet ⟨(), (zJ rfl zL), H.pick [] (by decide)⟩)))
  have hF := zS c164 hF
  refine zC fun K165 hK165 => ?_
  refine zB ?_
  obtain ⟨x166, e167, hF⟩ := zF hF
  refine zH (zM (xW (s1 := p0) (s2 := [102, 97, 108, 115, 101]) rfl rfl) e167) ?_
  refine zI (.bool x166) ?_
  refine (zD (zA (hK165 _ _ ?_)))
  refine yA (b := x166) rfl (fun c168 => ?_) (fun c168 => ?_)
  ·have hF := zQ c168 hF
   obtain rfl := someI hF
   exact (zX (zA (meet ⟨(), (zJ rfl zL), H.pick [] (by decide)⟩)))
  have hF := zS c168 hF
  refine zC fun K169 hK169 => ?_
  refine zB ?_
  obtain ⟨x170, e171, hF⟩ := zF hF
  refine zH (zM (xW (s1 := p0) (s2 := [115, 116, 101, 97, 100, 121]) rfl rfl) e171) ?_
  refine zI (.bool x170) ?_
  refine (zD (zA (hK169 _ _ ?_)))
  refine yA (b := x170) rfl (fun c172 => ?_) (fun c172 => ?_)
  ·have hF := zQ c172 hF
   obtain rfl := someI hF
   exact (zX (zA (meet ⟨(), (zJ rfl zL), H.pick [] (by decide)⟩)))
  have hF := zS c172 hF
  refine zC fun K173 hK173 => ?_
  refine zB ?_
  obtain ⟨x174, e175, hF⟩ := zF hF
  refine zH (zM (xW (s1 := p0) (s2 := [110, 111, 116]) rfl rfl) e175) ?_
  refine zI (.bool x174) ?_
  refine (zD (zA (hK173 _ _ ?_)))
  refine yA (b := x174) rfl (fun c176 => ?_) (fun c176 => ?_)
  ·have hF := zQ c176 hF
   obtain rfl := someI hF
   exact (zX (zA (meet ⟨(), (zJ rfl zL), H.pick [] (by decide)⟩)))
  have hF := zS c176 hF
  refine zC fun K177 hK177 => ?_
  refine zB ?_
  obtain ⟨x178, e179, hF⟩ := zF hF
  refine zH (zM (xW (s1 := p0) (s2 := [102, 111, 114]) rfl rfl) e179) ?_
  refine zI (.bool x178) ?_
  refine (zD (zA (hK177 _ _ ?_)))
  refine yA (b := x178) rfl (fun c180 => ?_) (fun c180 => ?_)
  ·have hF := zQ c180 hF
   obtain rfl := someI hF
   exact (zX (zA (meet ⟨(), (zJ rfl zL), H.pick [] (by decide)⟩)))
  have hF := zS c180 hF
  refine zC fun K181 hK181 => ?_
  refine zB ?_
  obtain ⟨x182, e183, hF⟩ := zF hF
  refine zH (zM (xW (s1 := p0) (s2 := [119, 105, 116, 104, 105, 110]) rfl rfl) e183) ?_
  refine zI (.bool x182) ?_
  refine (zD (zA (hK181 _ _ ?_)))
  refine yA (b := x182) rfl (fun c184 => ?_) (fun c184 => ?_)
  ·have hF := zQ c184 hF
   obtain rfl := someI hF
   exact (zX (zA (meet ⟨(), (zJ rfl zL), H.pick [] (by decide)⟩)))
  have hF := zS c184 hF
  refine zC fun K185 hK185 => ?_
  refine zB ?_
  obtain ⟨x186, e187, hF⟩ := zF hF
  refine zH (zM (xW (s1 := p0) (s2 := [99, 111, 117, 110, 116]) rfl rfl) e187) ?_
  refine zI (.bool x186) ?_
  refine (zD (zA (hK185 _ _ ?_)))
  refine yA (b := x186) rfl (fun c188 => ?_) (fun c188 => ?_)
  ·have hF := zQ c188 hF
   obtain rfl := someI hF
   exact (zX (zA (meet ⟨(), (zJ rfl zL), H.pick [] (by decide)⟩)))
  have hF := zS c188 hF
  refine zC fun K189 hK189 => ?_
  refine zB ?_
  obtain ⟨x190, e191, hF⟩ := zF hF
  refine zH (zM (xW (s1 := p0) (s2 := [111, 102]) rfl rfl) e191) ?_
  refine zI (.bool x190) ?_
  refine (zD (zA (hK189 _ _ ?_)))
  refine yA (b := x190) rfl (fun c192 => ?_) (fun c192 => ?_)
  ·have hF := zQ c192 hF
   obtain rfl := someI hF
   exact (zX (zA (meet ⟨(), (zJ rfl zL), H.pick [] (by decide)⟩)))
  have hF := zS c192 hF
  refine zC fun K193 hK193 => ?_
  refine zB ?_
  obtain ⟨x194, e195, hF⟩ := zF hF
  refine zH (zM (xW (s1 := p0) (s2 := [114, 105, 115, 101, 115]) rfl rfl) e195) ?_
  refine zI (.bool x194) ?_
  refine (zD (zA (hK193 _ _ ?_)))
  refine yA (b := x194) rfl (fun c196 => ?_) (fun c196 => ?_)
  ·have hF := zQ c196 hF
   obtain rfl := someI hF
   exact (zX (zA (meet ⟨(), (zJ rfl zL), H.pick [] (by decide)⟩)))
  have hF := zS c196 hF
  refine zB ?_
  obtain ⟨x197, e198, hF⟩ := zF hF
  refine zH (zM (xW (s1 := p0) (s2 := [115, 105, 110, 99, 101]) rfl rfl) e198) ?_
  refine zI (.bool x197) ?_
  obtain rfl := someI hF
  exact (zD (zA (meet ⟨(), (zJ rfl zL), H.pick [] (by decide)⟩)))
 rintro _ ρ w135 H
 have hF := hK136
 refine yA (b := g134) rfl (fun c199 => ?_) (fun c199 => ?_)
 ·have hF := zQ c199 hF
  refine zC fun K200 hK200 => ?_
  refine zB ?_
  refine zI (.bool true) ?_
  refine (zD (zA (hK200 _ _ ?_)))
  obtain rfl := someI hF
  refine (yB (yE (zW (post1 (v1 := .bool true) rfl rfl ?_))))
  exact ⟨rfl, H.pick [] (by decide)⟩
 have hF := zS c199 hF
 refine (zX (yT (zA (hK70 _ _ ?_))))
 refine zC fun K201 hK201 => ?_
 refine zB ?_
 refine zI (.bool false) ?_
 refine (zD (zA (hK201 _ _ ?_)))
 obtain rfl := someI hF
 refine (yB (post1 (v1 := .bool false) rfl rfl ?_))
 exact ⟨rfl, H.pick [] (by decide)⟩
set_option maxHeartbeats 4000000 in
set_option maxRecDepth 100000 in
theorem F_event_isName_w (p0 : Str) (r : Bool) (hF : F_event_isName p0 = some r) (O S : List Nat) (w : World) (H : Hd O w w S []) :
  Calls Tryz.prog 86 ([.string (bs p0)] : List Value).toArray w fun e w' => e = .returned (.bool r) ∧ Hd O w w' S [] := by
 unfold F_event_isName at hF
 refine zY 33 Tryz.func86 rfl rfl rfl ?_
 refine zC fun K1 hK1 => ?_
 refine zB ?_
 refine zI (.bool false) ?_
 refine (zD (zA (hK1 _ _ ?_)))
 refine zC fun K38 hK38 => ?_
 obtain ⟨g70, hF, hK72⟩ := zG hF
 refine yL [4, 5, 6, 7, 8, 9, 10, 11, 12, 13, 14, 15, 16, 17, 18, 19, 20, 21] (fun (g : Unit) => [(21, .bool g70)]) (fun g wl => Hd O w wl S []) ?_ ?_
 ·skip
  refine zB ?_
  refine zK (.string (bs p0)) ?_
  obtain ⟨x73, e74, hF⟩ := zF hF
  refine zH (yN (Do_slen (s1 := p0) u9 rfl) (congrArg (Value.int .i64) e74)) ?_
  have H75 := H
  obtain ⟨x76, e77, hF⟩ := zG hF
  refine zZ rfl rfl (zT en76 rfl) (F_event_within_w x73 1 30 _ e77 _ _ _ (H.enter [] [] (by decide) rfl)) ?_
  rintro _ w78 ⟨rfl, G79⟩
  have H := H75.step (G79.only : Only [] _ _)
  refine ⟨_, rfl, ?_⟩
  obtain ⟨x80, e81, hF⟩ := zF hF
  refine zH (zM (wJ (p := x76) rfl) e81) ?_
  obtain ⟨j82, hF, hK83⟩ := zG hF
  refine RL_cutS 5 [8, 9, 10, 11, 12] [(12, .bool j82)] (fun wl => Hd O w wl S []) ?_ ?_
  ·skip
   refine yK (b := x80) rfl rfl rfl (fun c85 => ?_) (fun c85 => ?_)
   ·have hF := zQ c85 hF
    refine yC ?_
    refine yC ?_
    refine yC ?_
    refine zH (yI (v := .bool true) rfl rfl) ?_
    obtain rfl := someI hF
    exact zD (zA (meet ⟨(zJ rfl zL), H.pick [] (by decide)⟩))
   have hF := zS c85 hF
   refine zK (.string (bs p0)) ?_
   obtain ⟨x86, e87, hF⟩ := zG hF
   refine zH (Do_sidx (s1 := p0) (q := 0) u9 rfl rfl e87) ?_
   obtain ⟨x88, e89, hF⟩ := zF hF
   refine zH (zM (xI (a := x86) (b := 97) rfl rfl) e89) ?_
   refine zH (yF (v := .bool x88) rfl rfl) ?_
   obtain rfl := someI hF
   exact zD (zA (meet ⟨(zJ rfl zL), H.pick [] (by decide)⟩))
  rintro ρ w84 H
  have hF := hK83
  obtain ⟨j90, hF, hK91⟩ := zG hF
  refine RL_cutS 5 [13, 14, 15, 16, 17] [(17, .bool j90)] (fun wl => Hd O w wl S []) ?_ ?_
  ·skip
   refine yK (b := j82) rfl rfl rfl (fun c93 => ?_) (fun c93 => ?_)
   ·have hF := zQ c93 hF
    refine yC ?_
    refine yC ?_
    refine yC ?_
    refine zH (yI (v := .bool true) rfl rfl) ?_
    obtain rfl := someI hF
    exact zD (zA (meet ⟨(zJ rfl zL), H.pick [] (by decide)⟩))
   have hF := zS c93 hF
   refine zK (.string (bs p0)) ?_
   obtain ⟨x94, e95, hF⟩ := zG hF
   refine zH (Do_sidx (s1 := p0) (q := 0) u9 rfl rfl e95) ?_
   obtain ⟨x96, e97, hF⟩ := zF hF
   refine zH (zM (Do_gtr (a := x94) (b := 122) rfl rfl) e97) ?_
   refine zH (yF (v := .bool x96) rfl rfl) ?_
   obtain rfl := someI hF
   exact zD (zA (meet ⟨(zJ rfl zL), H.pick [] (by decide)⟩))
  rintro ρ w92 H
  have hF := hK91
  refine yK (b := j90) rfl rfl rfl (fun c98 => ?_) (fun c98 => ?_)
  ·have hF := zQ c98 hF
   refine yC ?_
   refine yC ?_
   refine zH (yI (v := .bool true) rfl rfl) ?_
   obtain rfl := someI hF
   exact (zD (zA (meet ⟨(), (zJ rfl zL), H.pick [] (by decide)⟩)))
  have hF := zS c98 hF
  refine zK (.string (bs p0)) ?_
  have H99 := H
  obtain ⟨x100, e101, hF⟩ := zG hF
  refine zZ rfl rfl (zT en144 rfl) (F_event_isWord_w p0 _ e101 _ _ _ (H.enter [] [] (by decide) rfl)) ?_
  rintro _ w102 ⟨rfl, G103⟩
  have H := H99.step (G103.only : Only [] _ _)
  refine ⟨_, rfl, ?_⟩
  refine zH (yF (v := .bool x100) rfl rfl) ?_
  obtain rfl := someI hF
  exact (zD (zA (meet ⟨(), (zJ rfl zL), H.pick [] (by decide)⟩)))
 rintro _ ρ w71 H
 have hF := hK72
 refine yA (b := g70) rfl (fun c104 => ?_) (fun c104 => ?_)
 ·have hF := zQ c104 hF
  refine zC fun K105 hK105 => ?_
  refine zB ?_
  refine zI (.bool false) ?_
  refine (zD (zA (hK105 _ _ ?_)))
  obtain rfl := someI hF
  refine (yB (zW (post1 (v1 := .bool false) rfl rfl ?_)))
  exact ⟨rfl, H.pick [] (by decide)⟩
 have hF := zS c104 hF
 refine (zX (zA (hK38 _ _ ?_)))
 obtain ⟨k187, ek188, hF⟩ := xQ hF
 refine yL [2, 3, 22, 23, 24, 25, 26, 27, 28, 29, 30, 31, 32] (fun (g : Unit) => []) (fun g wl => Hd O w wl S [] ∧ k187 () = some r) ?_ ?_
 ·skip
  refine zC fun K189 hK189 => ?_
  refine zB ?_
  refine zK (.string (bs p0)) ?_
  obtain ⟨x190, e191, hF⟩ := zF hF
  refine zH (yN (Do_slen (s1 := p0) u9 rfl) (congrArg (Value.int .i64) e191)) ?_
  refine zK (.int .i64 0) ?_
  refine (zD (zA (hK189 _ _ ?_)))
  refine yG ?_
  unfold F_event_isName_L1 at hF
  obtain ⟨B264, n265, eB266, hF⟩ := yS hF
  refine xE [2, 3, 24, 25, 26, 27, 28, 29, 30, 31, 32] (fun (g : Nat × Int) => [(24, .int .i64 g.2)]) (fun g wl => Hd O w wl S [] ∧ loopN B264 g.1 g.2 = some r) (fun g => g.1) (n265, 0) (zJ rfl zL) ⟨H.pick [] (by decide), hF⟩ ?_
  clear H hF
  rintro ⟨n265, g263⟩ ρ w268 ⟨H, hF⟩
  obtain ⟨n269, rfl, hF⟩ := yX hF
  have hF := yY eB266 hF
  refine zC fun K270 hK270 => ?_
  refine zB ?_
  obtain ⟨x271, e272, hF⟩ := zF hF
  refine zH (zM (xI (a := g263) (b := x190) rfl rfl) e272) ?_
  refine (zD (zA (hK270 _ _ ?_)))
  refine zC fun K274 hK274 => ?_
  refine yA (b := x271) rfl (fun c275 => ?_) (fun c275 => ?_)
  ·have hF := zQ c275 hF
   refine (zX (zA (hK274 _ _ ?_)))
   refine zC fun K289 hK289 => ?_
   refine yG ?_
   refine zC fun K290 hK290 => ?_
   refine zB ?_
   refine zK (.int .i64 g263) ?_
   refine zI (.int .i64 g263) ?_
   refine (zD (zA (hK290 _ _ ?_)))
   refine zC fun K291 hK291 => ?_
   refine zB ?_
   refine zK (.string (bs p0)) ?_
   refine zK (.int .i64 g263) ?_
   obtain ⟨x292, e293, hF⟩ := zG hF
   refine zH (Do_sidx (s1 := p0) (q := g263) u9 rfl rfl e293) ?_
   have H294 := H
   obtain ⟨x295, e296, hF⟩ := zG hF
   refine zZ rfl rfl (zT en145 rfl) (F_event_nameByte_w x292 _ e296 _ _ _ (H.enter [] [] (by decide) rfl)) ?_
   rintro _ w297 ⟨rfl, G298⟩
   have H := H294.step (G298.only : Only [] _ _)
   refine ⟨_, rfl, ?_⟩
   obtain ⟨x299, e300, hF⟩ := zF hF
   refine zH (zM (wJ (p := x295) rfl) e300) ?_
   refine (zD (zA (hK291 _ _ ?_)))
   refine yA (b := x299) rfl (fun c301 => ?_) (fun c301 => ?_)
   ·have hF := zQ c301 hF
    refine zC fun K302 hK302 => ?_
    refine zB ?_
    refine zI (.bool false) ?_
    refine (zD (zA (hK302 _ _ ?_)))
    obtain rfl := someI hF
    refine (yB (yE (zW (zW (yE (zW (post1 (v1 := .bool false) rfl rfl ?_)))))))
    exact ⟨rfl, H.pick [] (by decide)⟩
   have hF := zS c301 hF
   refine (zX (yT (zA (hK289 _ _ ?_))))
   refine zB ?_
   obtain ⟨x303, e304, hF⟩ := zF hF
   refine zH (xP (a := g263) (b := 1) rfl rfl e304) ?_
   refine zK (.int .i64 x303) ?_
   exact (zD (zA (meet ⟨(n269, x303), (zJ rfl zL), ⟨H.pick [] (by decide), hF⟩, Nat.lt_succ_self _⟩)))
  have hF := zS c275 hF
  exact (xJ (yO (yO (xB (zA (meet ⟨(), zL, ⟨H.pick [] (by decide), hF⟩⟩))))))
 rintro _ ρ w186 ⟨H, hF⟩
 have hF := wB ek188 hF
 refine zC fun K305 hK305 => ?_
 refine zB ?_
 refine zI (.bool true) ?_
 refine (zD (zA (hK305 _ _ ?_)))
 obtain rfl := someI hF
 refine (yB (post1 (v1 := .bool true) rfl rfl ?_))
 exact ⟨rfl, H.pick [] (by decide)⟩
set_option maxHeartbeats 4000000 in
set_option maxRecDepth 100000 in
theorem F_event_fieldsOf_w (p0 : Int) (r : EventFields × Bool) (hF : F_event_fieldsOf p0 = some r) (O S : List Nat) (w : World) (H : Hd O w w S []) :
  Calls Tryz.prog 142 ([.int .i64 p0] : List Value).toArray w fun e w' => e = .returned (.tuple #[.agg [.bool r.1.name, .bool r.1.other, .bool r.1.op, .bool r.1.n, .bool r.1.frames, .int .i64 r.1.least, .int .i64 r.1.most].toArray, .bool r.2]) ∧ Hd O w w' S [] := by
 unfold F_event_fieldsOf at hF
 refine zY 41 Tryz.func142 rfl rfl rfl ?_
 refine zC fun K1 hK1 => ?_
 refine zB ?_
 refine yZ rfl rfl (xN zero226 H) ?_
 rintro _ w4 ⟨b2, rfl, H⟩
 refine zI (.bool false) ?_
 refine (zD (zA (hK1 _ _ ?_)))
 refine zC fun K96 hK96 => ?_
 refine zC fun K97 hK97 => ?_
 refine zB ?_
 refine zK (.int .i64 p0) ?_
 refine (zD (zA (hK97 _ _ ?_)))
 refine yG ?_
 obtain ⟨g104, hF, hK106⟩ := zG hF
 refine yL [5, 6, 7] (fun (g : Unit) => [(5, .bool g104)]) (fun g wl => Hd O w wl S [.blk b2 [.bool false, .bool false, .bool false, .bool false, .bool false, .int .i64 0, .int .i64 0] 226]) ?_ ?_
 ·skip
  refine zC fun K107 hK107 => ?_
  refine zB ?_
  obtain ⟨x108, e109, hF⟩ := zF hF
  refine zH (zM (yR (a := p0) (b := 1) rfl rfl) e109) ?_
  refine zI (.bool x108) ?_
  refine (zD (zA (hK107 _ _ ?_)))
  refine yA (b := x108) rfl (fun c110 => ?_) (fun c110 => ?_)
  ·have hF := zQ c110 hF
   obtain rfl := someI hF
   exact (zX (zA (meet ⟨(), (zJ rfl zL), H.pick [0] (by decide)⟩)))
  have hF := zS c110 hF
  refine zB ?_
  obtain ⟨x111, e112, hF⟩ := zF hF
  refine zH (zM (yR (a := p0) (b := 2) rfl rfl) e112) ?_
  refine zI (.bool x111) ?_
  obtain rfl := someI hF
  exact (zD (zA (meet ⟨(), (zJ rfl zL), H.pick [0] (by decide)⟩)))
 rintro _ ρ w105 H
 have hF := hK106
 refine yA (b := g104) rfl (fun c113 => ?_) (fun c113 => ?_)
 ·have hF := zQ c113 hF
  refine zC fun K114 hK114 => ?_
  refine zB ?_
  refine zH (Do_build (cs := [.bool false, .bool false, .bool false, .bool false, .bool false, .int .i64 0, .int .i64 0]) bz226) ?_
  refine xH rfl (xC (vs := [.bool false, .bool false, .bool false, .bool false, .bool false, .int .i64 0, .int .i64 0]) H 0 rfl sz226 rfl rfl rfl ⟨rfl, rfl, rfl, rfl, rfl, rfl, rfl, trivial⟩ rfl) ?_
  rintro w115 H
  refine zI (.bool true) ?_
  refine (zD (zA (hK114 _ _ ?_)))
  obtain rfl := someI hF
  refine (yB (yE (zW (postc1 (v1 := .bool true) rfl rfl (xA agg226 sz226 rfl (Blk.cells (H.item (i := 0) rfl))) rfl ?_))))
  exact ⟨rfl, H.pick [] (by decide)⟩
 have hF := zS c113 hF
 refine zC fun K116 hK116 => ?_
 refine zB ?_
 obtain ⟨x117, e118, hF⟩ := zF hF
 refine zH (zM (yR (a := p0) (b := 3) rfl rfl) e118) ?_
 refine zI (.bool x117) ?_
 refine (zD (zA (hK116 _ _ ?_)))
 refine yA (b := x117) rfl (fun c119 => ?_) (fun c119 => ?_)
 ·have hF := zQ c119 hF
  refine zC fun K120 hK120 => ?_
  refine zB ?_
  refine zH (Do_build (cs := [.bool true, .bool false, .bool true, .bool true, .bool false, .int .i64 0, .int .i64 0]) (bt226_0_2_3 _ _ _)) ?_
  refine xH rfl (xC (vs := [.bool true, .bool false, .bool true, .bool true, .bool false, .int .i64 0, .int .i64 0]) H 0 rfl sz226 rfl rfl rfl ⟨rfl, rfl, rfl, rfl, rfl, rfl, rfl, trivial⟩ rfl) ?_
  rintro w121 H
  refine zI (.bool true) ?_
  refine (zD (zA (hK120 _ _ ?_)))
  obtain rfl := someI hF
  refine (yB (yE (zW (postc1 (v1 := .bool true) rfl rfl (xA agg226 sz226 rfl (Blk.cells (H.item (i := 0) rfl))) rfl ?_))))
  exact ⟨rfl, H.pick [] (by decide)⟩
 have hF := zS c119 hF
 refine zC fun K122 hK122 => ?_
 refine zB ?_
 obtain ⟨x123, e124, hF⟩ := zF hF
 refine zH (zM (yR (a := p0) (b := 4) rfl rfl) e124) ?_
 refine zI (.bool x123) ?_
 refine (zD (zA (hK122 _ _ ?_)))
 refine yA (b := x123) rfl (fun c125 => ?_) (fun c125 => ?_)
 ·have hF := zQ c125 hF
  refine zC fun K126 hK126 => ?_
  refine zB ?_
  refine zH (Do_build (cs := [.bool true, .bool true, .bool true, .bool false, .bool false, .int .i64 0, .int .i64 0]) (bt226_0_1_2 _ _ _)) ?_
  refine xH rfl (xC (vs := [.bool true, .bool true, .bool true, .bool false, .bool false, .int .i64 0, .int .i64 0]) H 0 rfl sz226 rfl rfl rfl ⟨rfl, rfl, rfl, rfl, rfl, rfl, rfl, trivial⟩ rfl) ?_
  rintro w127 H
  refine zI (.bool true) ?_
  refine (zD (zA (hK126 _ _ ?_)))
  obtain rfl := someI hF
  refine (yB (yE (zW (postc1 (v1 := .bool true) rfl rfl (xA agg226 sz226 rfl (Blk.cells (H.item (i := 0) rfl))) rfl ?_))))
  exact ⟨rfl, H.pick [] (by decide)⟩
 have hF := zS c125 hF
 refine zC fun K128 hK128 => ?_
 refine zB ?_
 obtain ⟨x129, e130, hF⟩ := zF hF
 refine zH (zM (yR (a := p0) (b := 5) rfl rfl) e130) ?_
 refine zI (.bool x129) ?_
 refine (zD (zA (hK128 _ _ ?_)))
 refine yA (b := x129) rfl (fun c131 => ?_) (fun c131 => ?_)
 ·have hF := zQ c131 hF
  refine zC fun K132 hK132 => ?_
  refine zB ?_
  refine zH (Do_build (cs := [.bool true, .bool false, .bool false, .bool true, .bool true, .int .i64 0, .int .i64 0]) (bt226_0_3_4 _ _ _)) ?_
  refine xH rfl (xC (vs := [.bool true, .bool false, .bool false, .bool true, .bool true, .int .i64 0, .int .i64 0]) H 0 rfl sz226 rfl rfl rfl ⟨rfl, rfl, rfl, rfl, rfl, rfl, rfl, trivial⟩ rfl) ?_
  rintro w133 H
  refine zI (.bool true) ?_
  refine (zD (zA (hK132 _ _ ?_)))
  obtain rfl := someI hF
  refine (yB (yE (zW (postc1 (v1 := .bool true) rfl rfl (xA agg226 sz226 rfl (Blk.cells (H.item (i := 0) rfl))) rfl ?_))))
  exact ⟨rfl, H.pick [] (by decide)⟩
 have hF := zS c131 hF
 obtain ⟨g140, hF, hK142⟩ := zG hF
 refine yL [18, 19, 20] (fun (g : Unit) => [(18, .bool g140)]) (fun g wl => Hd O w wl S [.blk b2 [.bool false, .bool false, .bool false, .bool false, .bool false, .int .i64 0, .int .i64 0] 226]) ?_ ?_
 ·skip
  refine zC fun K143 hK143 => ?_
  refine zB ?_
  obtain ⟨x144, e145, hF⟩ := zF hF
  refine zH (zM (yR (a := p0) (b := 6) rfl rfl) e145) ?_
  refine zI (.bool x144) ?_
  refine (zD (zA (hK143 _ _ ?_)))
  refine yA (b := x144) rfl (fun c146 => ?_) (fun c146 => ?_)
  ·have hF := zQ c146 hF
   obtain rfl := someI hF
   exact (zX (zA (meet ⟨(), (zJ rfl zL), H.pick [0] (by decide)⟩)))
  have hF := zS c146 hF
  refine zB ?_
  obtain ⟨x147, e148, hF⟩ := zF hF
  refine zH (zM (yR (a := p0) (b := 7) rfl rfl) e148) ?_
  refine zI (.bool x147) ?_
  obtain rfl := someI hF
  exact (zD (zA (meet ⟨(), (zJ rfl zL), H.pick [0] (by decide)⟩)))
 rintro _ ρ w141 H
 have hF := hK142
 refine yA (b := g140) rfl (fun c149 => ?_) (fun c149 => ?_)
 ·have hF := zQ c149 hF
  refine zC fun K150 hK150 => ?_
  refine zB ?_
  refine zH (Do_build (cs := [.bool true, .bool false, .bool false, .bool false, .bool false, .int .i64 0, .int .i64 0]) (bt226_0 _)) ?_
  refine xH rfl (xC (vs := [.bool true, .bool false, .bool false, .bool false, .bool false, .int .i64 0, .int .i64 0]) H 0 rfl sz226 rfl rfl rfl ⟨rfl, rfl, rfl, rfl, rfl, rfl, rfl, trivial⟩ rfl) ?_
  rintro w151 H
  refine zI (.bool true) ?_
  refine (zD (zA (hK150 _ _ ?_)))
  obtain rfl := someI hF
  refine (yB (yE (zW (postc1 (v1 := .bool true) rfl rfl (xA agg226 sz226 rfl (Blk.cells (H.item (i := 0) rfl))) rfl ?_))))
  exact ⟨rfl, H.pick [] (by decide)⟩
 have hF := zS c149 hF
 obtain ⟨g158, hF, hK160⟩ := zG hF
 refine yL [22, 23, 24] (fun (g : Unit) => [(22, .bool g158)]) (fun g wl => Hd O w wl S [.blk b2 [.bool false, .bool false, .bool false, .bool false, .bool false, .int .i64 0, .int .i64 0] 226]) ?_ ?_
 ·skip
  refine zC fun K161 hK161 => ?_
  refine zB ?_
  obtain ⟨x162, e163, hF⟩ := zF hF
  refine zH (zM (yR (a := p0) (b := 8) rfl rfl) e163) ?_
  refine zI (.bool x162) ?_
  refine (zD (zA (hK161 _ _ ?_)))
  refine yA (b := x162) rfl (fun c164 => ?_) (fun c164 => ?_)
  ·have hF := zQ c164 hF
   obtain rfl := someI hF
   exact (zX (zA (meet ⟨(), (zJ rfl zL), H.pick [0] (by decide)⟩)))
  have hF := zS c164 hF
  refine zB ?_
  obtain ⟨x165, e166, hF⟩ := zF hF
  refine zH (zM (yR (a := p0) (b := 15) rfl rfl) e166) ?_
  refine zI (.bool x165) ?_
  obtain rfl := someI hF
  exact (zD (zA (meet ⟨(), (zJ rfl zL), H.pick [0] (by decide)⟩)))
 rintro _ ρ w159 H
 have hF := hK160
 refine yA (b := g158) rfl (fun c167 => ?_) (fun c167 => ?_)
 ·have hF := zQ c167 hF
  refine zC fun K168 hK168 => ?_
  refine zB ?_
  refine zH (Do_build (cs := [.bool false, .bool false, .bool false, .bool false, .bool false, .int .i64 1, .int .i64 1]) (bt226_5_6 _ _)) ?_
  refine xH rfl (xC (vs := [.bool false, .bool false, .bool false, .bool false, .bool false, .int .i64 1, .int .i64 1]) H 0 rfl sz226 rfl rfl rfl ⟨rfl, rfl, rfl, rfl, rfl, rfl, rfl, trivial⟩ rfl) ?_
  rintro w169 H
  refine zI (.bool true) ?_
  refine (zD (zA (hK168 _ _ ?_)))
  obtain rfl := someI hF
  refine (yB (yE (zW (postc1 (v1 := .bool true) rfl rfl (xA agg226 sz226 rfl (Blk.cells (H.item (i := 0) rfl))) rfl ?_))))
  exact ⟨rfl, H.pick [] (by decide)⟩
 have hF := zS c167 hF
 obtain ⟨g176, hF, hK178⟩ := zG hF
 refine yL [26, 27, 28] (fun (g : Unit) => [(26, .bool g176)]) (fun g wl => Hd O w wl S [.blk b2 [.bool false, .bool false, .bool false, .bool false, .bool false, .int .i64 0, .int .i64 0] 226]) ?_ ?_
 ·skip
  refine zC fun K179 hK179 => ?_
  refine zB ?_
  obtain ⟨x180, e181, hF⟩ := zF hF
  refine zH (zM (yR (a := p0) (b := 9) rfl rfl) e181) ?_
  refine zI (.bool x180) ?_
  refine (zD (zA (hK179 _ _ ?_)))
  refine yA (b := x180) rfl (fun c182 => ?_) (fun c182 => ?_)
  ·have hF := zQ c182 hF
   obtain rfl := someI hF
   exact (zX (zA (meet ⟨(), (zJ rfl zL), H.pick [0] (by decide)⟩)))
  have hF := zS c182 hF
  refine zB ?_
  obtain ⟨x183, e184, hF⟩ := zF hF
  refine zH (zM (yR (a := p0) (b := 10) rfl rfl) e184) ?_
  refine zI (.bool x183) ?_
  obtain rfl := someI hF
  exact (zD (zA (meet ⟨(), (zJ rfl zL), H.pick [0] (by decide)⟩)))
 rintro _ ρ w177 H
 have hF := hK178
 refine yA (b := g176) rfl (fun c185 => ?_) (fun c185 => ?_)
 ·have hF := zQ c185 hF
  refine zC fun K186 hK186 => ?_
  refine zB ?_
  refine zH (Do_build (cs := [.bool false, .bool false, .bool false, .bool false, .bool false, .int .i64 2, .int .i64 200]) (bt226_5_6 _ _)) ?_
  refine xH rfl (xC (vs := [.bool false, .bool false, .bool false, .bool false, .bool false, .int .i64 2, .int .i64 200]) H 0 rfl sz226 rfl rfl rfl ⟨rfl, rfl, rfl, rfl, rfl, rfl, rfl, trivial⟩ rfl) ?_
  rintro w187 H
  refine zI (.bool true) ?_
  refine (zD (zA (hK186 _ _ ?_)))
  obtain rfl := someI hF
  refine (yB (yE (zW (postc1 (v1 := .bool true) rfl rfl (xA agg226 sz226 rfl (Blk.cells (H.item (i := 0) rfl))) rfl ?_))))
  exact ⟨rfl, H.pick [] (by decide)⟩
 have hF := zS c185 hF
 obtain ⟨g194, hF, hK196⟩ := zG hF
 refine yL [30, 31, 32] (fun (g : Unit) => [(30, .bool g194)]) (fun g wl => Hd O w wl S [.blk b2 [.bool false, .bool false, .bool false, .bool false, .bool false, .int .i64 0, .int .i64 0] 226]) ?_ ?_
 ·skip
  refine zC fun K197 hK197 => ?_
  refine zB ?_
  obtain ⟨x198, e199, hF⟩ := zF hF
  refine zH (zM (yR (a := p0) (b := 11) rfl rfl) e199) ?_
  refine zI (.bool x198) ?_
  refine (zD (zA (hK197 _ _ ?_)))
  refine yA (b := x198) rfl (fun c200 => ?_) (fun c200 => ?_)
  ·have hF := zQ c200 hF
   obtain rfl := someI hF
   exact (zX (zA (meet ⟨(), (zJ rfl zL), H.pick [0] (by decide)⟩)))
  have hF := zS c200 hF
  refine zB ?_
  obtain ⟨x201, e202, hF⟩ := zF hF
  refine zH (zM (yR (a := p0) (b := 12) rfl rfl) e202) ?_
  refine zI (.bool x201) ?_
  obtain rfl := someI hF
  exact (zD (zA (meet ⟨(), (zJ rfl zL), H.pick [0] (by decide)⟩)))
 rintro _ ρ w195 H
 have hF := hK196
 refine yA (b := g194) rfl (fun c203 => ?_) (fun c203 => ?_)
 ·have hF := zQ c203 hF
  refine zC fun K204 hK204 => ?_
  refine zB ?_
  refine zH (Do_build (cs := [.bool false, .bool false, .bool false, .bool false, .bool true, .int .i64 1, .int .i64 1]) (bt226_4_5_6 _ _ _)) ?_
  refine xH rfl (xC (vs := [.bool false, .bool false, .bool false, .bool false, .bool true, .int .i64 1, .int .i64 1]) H 0 rfl sz226 rfl rfl rfl ⟨rfl, rfl, rfl, rfl, rfl, rfl, rfl, trivial⟩ rfl) ?_
  rintro w205 H
  refine zI (.bool true) ?_
  refine (zD (zA (hK204 _ _ ?_)))
  obtain rfl := someI hF
  refine (yB (yE (zW (postc1 (v1 := .bool true) rfl rfl (xA agg226 sz226 rfl (Blk.cells (H.item (i := 0) rfl))) rfl ?_))))
  exact ⟨rfl, H.pick [] (by decide)⟩
 have hF := zS c203 hF
 refine zC fun K206 hK206 => ?_
 refine zB ?_
 obtain ⟨x207, e208, hF⟩ := zF hF
 refine zH (zM (yR (a := p0) (b := 13) rfl rfl) e208) ?_
 refine zI (.bool x207) ?_
 refine (zD (zA (hK206 _ _ ?_)))
 refine yA (b := x207) rfl (fun c209 => ?_) (fun c209 => ?_)
 ·have hF := zQ c209 hF
  refine zC fun K210 hK210 => ?_
  refine zB ?_
  refine zH (Do_build (cs := [.bool false, .bool false, .bool false, .bool true, .bool true, .int .i64 1, .int .i64 1]) (bt226_3_4_5_6 _ _ _ _)) ?_
  refine xH rfl (xC (vs := [.bool false, .bool false, .bool false, .bool true, .bool true, .int .i64 1, .int .i64 1]) H 0 rfl sz226 rfl rfl rfl ⟨rfl, rfl, rfl, rfl, rfl, rfl, rfl, trivial⟩ rfl) ?_
  rintro w211 H
  refine zI (.bool true) ?_
  refine (zD (zA (hK210 _ _ ?_)))
  obtain rfl := someI hF
  refine (yB (yE (zW (postc1 (v1 := .bool true) rfl rfl (xA agg226 sz226 rfl (Blk.cells (H.item (i := 0) rfl))) rfl ?_))))
  exact ⟨rfl, H.pick [] (by decide)⟩
 have hF := zS c209 hF
 refine zC fun K212 hK212 => ?_
 refine zB ?_
 obtain ⟨x213, e214, hF⟩ := zF hF
 refine zH (zM (yR (a := p0) (b := 14) rfl rfl) e214) ?_
 refine zI (.bool x213) ?_
 refine (zD (zA (hK212 _ _ ?_)))
 refine yA (b := x213) rfl (fun c215 => ?_) (fun c215 => ?_)
 ·have hF := zQ c215 hF
  refine zC fun K216 hK216 => ?_
  refine zB ?_
  refine zH (Do_build (cs := [.bool false, .bool false, .bool false, .bool false, .bool false, .int .i64 2, .int .i64 2]) (bt226_5_6 _ _)) ?_
  refine xH rfl (xC (vs := [.bool false, .bool false, .bool false, .bool false, .bool false, .int .i64 2, .int .i64 2]) H 0 rfl sz226 rfl rfl rfl ⟨rfl, rfl, rfl, rfl, rfl, rfl, rfl, trivial⟩ rfl) ?_
  rintro w217 H
  refine zI (.bool true) ?_
  refine (zD (zA (hK216 _ _ ?_)))
  obtain rfl := someI hF
  refine (yB (yE (zW (postc1 (v1 := .bool true) rfl rfl (xA agg226 sz226 rfl (Blk.cells (H.item (i := 0) rfl))) rfl ?_))))
  exact ⟨rfl, H.pick [] (by decide)⟩
 have hF := zS c215 hF
 refine (zX (yT (zA (hK96 _ _ ?_))))
 refine zC fun K218 hK218 => ?_
 refine zB ?_
 refine zH (Do_build (cs := [.bool false, .bool false, .bool false, .bool false, .bool false, .int .i64 0, .int .i64 0]) bz226) ?_
 refine xH rfl (xC (vs := [.bool false, .bool false, .bool false, .bool false, .bool false, .int .i64 0, .int .i64 0]) H 0 rfl sz226 rfl rfl rfl ⟨rfl, rfl, rfl, rfl, rfl, rfl, rfl, trivial⟩ rfl) ?_
 rintro w219 H
 refine zI (.bool false) ?_
 refine (zD (zA (hK218 _ _ ?_)))
 obtain rfl := someI hF
 refine (yB (postc1 (v1 := .bool false) rfl rfl (xA agg226 sz226 rfl (Blk.cells (H.item (i := 0) rfl))) rfl ?_))
 exact ⟨rfl, H.pick [] (by decide)⟩
end Go.Proofs.YtckmiljbaejijaaGreatDoor.L
