/- Walks: what each function computes, for every argument; no condition but those that stand in the statements. -/
import Derived.Test.YtnajnkghilemhaaGreatDoorRows
import Derived.Test.YtnajnkghilemhaaGreatDoorVP
import Derived.Test.YtnajnkghilemhaaGreatDoorXVc
import Derived.Test.YtnajnkghilemhaaGreatDoorDfr
namespace Go.Proofs.YtnajnkghilemhaaGreatDoor.L
open Go.RowKit Go.OB Go.Lf
theorem u2 : Tryz.prog.underlying 2 = some (.int .i64) := Tryz.underlying2
theorem u3 : Tryz.prog.underlying 3 = some (.int .i64) := Tryz.underlying3
theorem u5 : Tryz.prog.underlying 5 = some (.int .u8) := Tryz.underlying5
theorem u9 : Tryz.prog.underlying 9 = some .string := Tryz.underlying9
theorem u22 : Tryz.prog.underlying 22 = some (.slice 9) := Tryz.underlying22
theorem u23 : Tryz.prog.underlying 23 = some (.slice 102) := Tryz.underlying23
theorem u24 : Tryz.prog.underlying 24 = some (.slice 106) := Tryz.underlying24
theorem u27 : Tryz.prog.underlying 27 = some (.slice 37) := Tryz.underlying27
theorem u33 : Tryz.prog.underlying 33 = some (.slice 40) := Tryz.underlying33
theorem u52 : Tryz.prog.underlying 52 = some (.slice 54) := Tryz.underlying52
theorem u65 : Tryz.prog.underlying 65 = some (.slice 173) := Tryz.underlying65
theorem u77 : Tryz.prog.underlying 77 = some (.slice 5) := Tryz.underlying77
theorem u136 : Tryz.prog.underlying 136 = some (.int .u64) := Tryz.underlying136
theorem u156 : Tryz.prog.underlying 156 = some (.array 7 9) := Tryz.underlying156
theorem u251 : Tryz.prog.underlying 251 = some (.int .u64) := Tryz.underlying251
theorem fo86_2 : fieldOf Tryz.prog 86 2 = some (2, 3) := by kernel_rfl
theorem fo86_3 : fieldOf Tryz.prog 86 3 = some (3, 9) := by kernel_rfl
theorem ui113 : Tryz.prog.underlying 113 = some (.interface (Tryz.prog.methodsAt 113)) := by kernel_rfl
theorem sz3 : Sz Tryz.prog 3 1 := by unfold Sz; kernel_rfl
theorem sz9 : Sz Tryz.prog 9 1 := by unfold Sz; kernel_rfl
theorem sz23 : Sz Tryz.prog 23 1 := by unfold Sz; kernel_rfl
theorem sz24 : Sz Tryz.prog 24 1 := by unfold Sz; kernel_rfl
theorem sz26 : Sz Tryz.prog 26 3 := by unfold Sz; kernel_rfl
theorem sz35 : Sz Tryz.prog 35 2 := by unfold Sz; kernel_rfl
theorem sz37 : Sz Tryz.prog 37 4 := by unfold Sz; kernel_rfl
theorem sz40 : Sz Tryz.prog 40 3 := by unfold Sz; kernel_rfl
theorem sz48 : Sz Tryz.prog 48 1 := by unfold Sz; kernel_rfl
theorem sz52 : Sz Tryz.prog 52 1 := by unfold Sz; kernel_rfl
theorem sz54 : Sz Tryz.prog 54 7 := by unfold Sz; kernel_rfl
theorem sz77 : Sz Tryz.prog 77 1 := by unfold Sz; kernel_rfl
theorem sz86 : Sz Tryz.prog 86 4 := by unfold Sz; kernel_rfl
theorem sz90 : Sz Tryz.prog 90 2 := by unfold Sz; kernel_rfl
theorem sz102 : Sz Tryz.prog 102 9 := by unfold Sz; kernel_rfl
theorem sz106 : Sz Tryz.prog 106 8 := by unfold Sz; kernel_rfl
theorem sz173 : Sz Tryz.prog 173 2 := by unfold Sz; kernel_rfl
theorem sz211 : Sz Tryz.prog 211 7 := by unfold Sz; kernel_rfl
theorem one3 : OneC Tryz.prog 3 := by unfold OneC; kernel_rfl
theorem one4 : OneC Tryz.prog 4 := by unfold OneC; kernel_rfl
theorem one9 : OneC Tryz.prog 9 := by unfold OneC; kernel_rfl
theorem one22 : OneC Tryz.prog 22 := by unfold OneC; kernel_rfl
theorem one23 : OneC Tryz.prog 23 := by unfold OneC; kernel_rfl
theorem one24 : OneC Tryz.prog 24 := by unfold OneC; kernel_rfl
theorem one30 : OneC Tryz.prog 30 := by unfold OneC; kernel_rfl
theorem one33 : OneC Tryz.prog 33 := by unfold OneC; kernel_rfl
theorem one48 : OneC Tryz.prog 48 := by unfold OneC; kernel_rfl
theorem one52 : OneC Tryz.prog 52 := by unfold OneC; kernel_rfl
theorem one77 : OneC Tryz.prog 77 := by unfold OneC; kernel_rfl
theorem one84 : OneC Tryz.prog 84 := by unfold OneC; kernel_rfl
theorem agg26 : Agg Tryz.prog 26 := by unfold Agg; kernel_rfl
theorem agg35 : Agg Tryz.prog 35 := by unfold Agg; kernel_rfl
theorem agg37 : Agg Tryz.prog 37 := by unfold Agg; kernel_rfl
theorem agg40 : Agg Tryz.prog 40 := by unfold Agg; kernel_rfl
theorem agg54 : Agg Tryz.prog 54 := by unfold Agg; kernel_rfl
theorem agg86 : Agg Tryz.prog 86 := by unfold Agg; kernel_rfl
theorem agg102 : Agg Tryz.prog 102 := by unfold Agg; kernel_rfl
theorem agg106 : Agg Tryz.prog 106 := by unfold Agg; kernel_rfl
theorem agg211 : Agg Tryz.prog 211 := by unfold Agg; kernel_rfl
theorem zero3 : Go.OB.Zero Tryz.prog 3 ([.int .i64 0]) := by unfold Go.OB.Zero; kernel_rfl
theorem zero26 : Go.OB.Zero Tryz.prog 26 ([.slice none 0 0, .slice none 0 0, .slice none 0 0]) := by unfold Go.OB.Zero; kernel_rfl
theorem zero37 : Go.OB.Zero Tryz.prog 37 ([.string (bs []), .int .i64 0, .slice none 0 0, .int .i64 0]) := by unfold Go.OB.Zero; kernel_rfl
theorem zero40 : Go.OB.Zero Tryz.prog 40 ([.int .i64 0, .int .i64 0, .int .i64 0]) := by unfold Go.OB.Zero; kernel_rfl
theorem zero48 : Go.OB.Zero Tryz.prog 48 ([.nilFunc]) := by unfold Go.OB.Zero; kernel_rfl
theorem zero54 : Go.OB.Zero Tryz.prog 54 ([.int .i64 0, .string (bs []), .string (bs []), .int .i64 0, .int .i64 0, .int .i64 0, .slice none 0 0]) := by unfold Go.OB.Zero; kernel_rfl
theorem zero86 : Go.OB.Zero Tryz.prog 86 ([.int .i64 0, .int .i64 0, .int .i64 0, .string (bs [])]) := by unfold Go.OB.Zero; kernel_rfl
theorem zero90 : Go.OB.Zero Tryz.prog 90 ([.int .i64 0, .int .i64 0]) := by unfold Go.OB.Zero; kernel_rfl
theorem zero102 : Go.OB.Zero Tryz.prog 102 ([.string (bs []), .string (bs []), .int .i64 0, .string (bs []), .string (bs []), .int .i64 0, .int .i64 0, .int .i64 0, .slice none 0 0]) := by unfold Go.OB.Zero; kernel_rfl
theorem zero106 : Go.OB.Zero Tryz.prog 106 ([.string (bs []), .int .i64 0, .string (bs []), .string (bs []), .int .i64 0, .int .i64 0, .int .i64 0, .slice none 0 0]) := by unfold Go.OB.Zero; kernel_rfl
theorem zero111 : Go.OB.Zero Tryz.prog 111 ([.pointer none, .slice none 0 0]) := by unfold Go.OB.Zero; kernel_rfl
theorem zero211 : Go.OB.Zero Tryz.prog 211 ([.bool false, .bool false, .bool false, .bool false, .bool false, .int .i64 0, .int .i64 0]) := by unfold Go.OB.Zero; kernel_rfl
theorem el5 : El Tryz.prog 5 1 1 ([.int .u8 0]) := ⟨by kernel_rfl, by kernel_rfl, by kernel_rfl, by decide, by decide⟩
theorem el9 : El Tryz.prog 9 1 16 ([.string (bs [])]) := ⟨by kernel_rfl, by kernel_rfl, by kernel_rfl, by decide, by decide⟩
theorem el54 : El Tryz.prog 54 7 88 ([.int .i64 0, .string (bs []), .string (bs []), .int .i64 0, .int .i64 0, .int .i64 0, .slice none 0 0]) := ⟨by kernel_rfl, by kernel_rfl, by kernel_rfl, by decide, by decide⟩
theorem el102 : El Tryz.prog 102 9 120 ([.string (bs []), .string (bs []), .int .i64 0, .string (bs []), .string (bs []), .int .i64 0, .int .i64 0, .int .i64 0, .slice none 0 0]) := ⟨by kernel_rfl, by kernel_rfl, by kernel_rfl, by decide, by decide⟩
theorem el106 : El Tryz.prog 106 8 104 ([.string (bs []), .int .i64 0, .string (bs []), .string (bs []), .int .i64 0, .int .i64 0, .int .i64 0, .slice none 0 0]) := ⟨by kernel_rfl, by kernel_rfl, by kernel_rfl, by decide, by decide⟩
theorem el173 : El Tryz.prog 173 2 16 ([.int .i64 0, .bool false]) := ⟨by kernel_rfl, by kernel_rfl, by kernel_rfl, by decide, by decide⟩
theorem z8_5 : Z8 Tryz.prog 5 := by unfold Z8; kernel_rfl
theorem bz26 : Tryz.prog.built 26 [] = some ([.slice none 0 0, .slice none 0 0, .slice none 0 0]).toArray := by kernel_rfl
theorem bz40 : Tryz.prog.built 40 [] = some ([.int .i64 0, .int .i64 0, .int .i64 0]).toArray := by kernel_rfl
theorem bz79 : Tryz.prog.built 79 [] = some ([.slice none 0 0]).toArray := by kernel_rfl
theorem bz211 : Tryz.prog.built 211 [] = some ([.bool false, .bool false, .bool false, .bool false, .bool false, .int .i64 0, .int .i64 0]).toArray := by kernel_rfl
theorem bt54_0 (a0 : Int) : Tryz.prog.built 54 [(0, .int .i64 a0)] = some [.int .i64 a0, .string (bs []), .string (bs []), .int .i64 0, .int .i64 0, .int .i64 0, .slice none 0 0].toArray := by kernel_rfl
theorem bt54_0_1 (a0 : Int) (a1 : Str) : Tryz.prog.built 54 [(0, .int .i64 a0), (1, .string (bs a1))] = some [.int .i64 a0, .string (bs a1), .string (bs []), .int .i64 0, .int .i64 0, .int .i64 0, .slice none 0 0].toArray := by kernel_rfl
theorem bt54_0_4 (a0 : Int) (a1 : Int) : Tryz.prog.built 54 [(0, .int .i64 a0), (4, .int .i64 a1)] = some [.int .i64 a0, .string (bs []), .string (bs []), .int .i64 0, .int .i64 a1, .int .i64 0, .slice none 0 0].toArray := by kernel_rfl
theorem bt54_0_5_6 (a0 : Int) (a1 : Int) (a2a : Option Addr) (a2n a2c : Nat) : Tryz.prog.built 54 [(0, .int .i64 a0), (5, .int .i64 a1), (6, .slice a2a a2n a2c)] = some [.int .i64 a0, .string (bs []), .string (bs []), .int .i64 0, .int .i64 0, .int .i64 a1, .slice a2a a2n a2c].toArray := by kernel_rfl
theorem bt54_0_6 (a0 : Int) (a1a : Option Addr) (a1n a1c : Nat) : Tryz.prog.built 54 [(0, .int .i64 a0), (6, .slice a1a a1n a1c)] = some [.int .i64 a0, .string (bs []), .string (bs []), .int .i64 0, .int .i64 0, .int .i64 0, .slice a1a a1n a1c].toArray := by kernel_rfl
theorem bt86_0_1 (a0 : Int) (a1 : Int) : Tryz.prog.built 86 [(0, .int .i64 a0), (1, .int .i64 a1)] = some [.int .i64 a0, .int .i64 a1, .int .i64 0, .string (bs [])].toArray := by kernel_rfl
theorem bt88_0 (a0 : Str) : Tryz.prog.built 88 [(0, .string (bs a0))] = some [.string (bs a0), .int .i64 0, .int .i64 0, .int .i64 0, .int .i64 0, .string (bs []), .slice none 0 0, .slice none 0 0, .slice none 0 0].toArray := by kernel_rfl
theorem bt102_0_1 (a0 : Str) (a1 : Str) : Tryz.prog.built 102 [(0, .string (bs a0)), (1, .string (bs a1))] = some [.string (bs a0), .string (bs a1), .int .i64 0, .string (bs []), .string (bs []), .int .i64 0, .int .i64 0, .int .i64 0, .slice none 0 0].toArray := by kernel_rfl
theorem bt106_0 (a0 : Str) : Tryz.prog.built 106 [(0, .string (bs a0))] = some [.string (bs a0), .int .i64 0, .string (bs []), .string (bs []), .int .i64 0, .int .i64 0, .int .i64 0, .slice none 0 0].toArray := by kernel_rfl
theorem bt173_0_1 (a0 : Int) (a1 : Bool) : Tryz.prog.built 173 [(0, .int .i64 a0), (1, .bool a1)] = some [.int .i64 a0, .bool a1].toArray := by kernel_rfl
theorem bt211_0 (a0 : Bool) : Tryz.prog.built 211 [(0, .bool a0)] = some [.bool a0, .bool false, .bool false, .bool false, .bool false, .int .i64 0, .int .i64 0].toArray := by kernel_rfl
theorem bt211_0_1_2 (a0 : Bool) (a1 : Bool) (a2 : Bool) : Tryz.prog.built 211 [(0, .bool a0), (1, .bool a1), (2, .bool a2)] = some [.bool a0, .bool a1, .bool a2, .bool false, .bool false, .int .i64 0, .int .i64 0].toArray := by kernel_rfl
theorem bt211_0_2_3 (a0 : Bool) (a1 : Bool) (a2 : Bool) : Tryz.prog.built 211 [(0, .bool a0), (2, .bool a1), (3, .bool a2)] = some [.bool a0, .bool false, .bool a1, .bool a2, .bool false, .int .i64 0, .int .i64 0].toArray := by kernel_rfl
theorem bt211_0_3_4 (a0 : Bool) (a1 : Bool) (a2 : Bool) : Tryz.prog.built 211 [(0, .bool a0), (3, .bool a1), (4, .bool a2)] = some [.bool a0, .bool false, .bool false, .bool a1, .bool a2, .int .i64 0, .int .i64 0].toArray := by kernel_rfl
theorem bt211_3_4_5_6 (a0 : Bool) (a1 : Bool) (a2 : Int) (a3 : Int) : Tryz.prog.built 211 [(3, .bool a0), (4, .bool a1), (5, .int .i64 a2), (6, .int .i64 a3)] = some [.bool false, .bool false, .bool false, .bool a0, .bool a1, .int .i64 a2, .int .i64 a3].toArray := by kernel_rfl
theorem bt211_4_5_6 (a0 : Bool) (a1 : Int) (a2 : Int) : Tryz.prog.built 211 [(4, .bool a0), (5, .int .i64 a1), (6, .int .i64 a2)] = some [.bool false, .bool false, .bool false, .bool false, .bool a0, .int .i64 a1, .int .i64 a2].toArray := by kernel_rfl
theorem bt211_5_6 (a0 : Int) (a1 : Int) : Tryz.prog.built 211 [(5, .int .i64 a0), (6, .int .i64 a1)] = some [.bool false, .bool false, .bool false, .bool false, .bool false, .int .i64 a0, .int .i64 a1].toArray := by kernel_rfl
theorem fa26_0 {ρ : Env} {w : World} {d : Option Tmp} {x : Operand} {ty : TypeId} {pos : String} {af : Array Edge} {g : Option (Nat × Bool)} {b o : Nat} (hx : ev ρ x = .pointer (some ⟨b, o, none⟩)) : Do Tryz.prog ⟨d, .fieldAddr 26 x 0, ty, pos, af, g⟩ ρ w (.pointer (some ⟨b, o + 0, none⟩)) w := yO (n := 1) (m := 0) (by kernel_rfl) (by decide) hx
theorem fa26_1 {ρ : Env} {w : World} {d : Option Tmp} {x : Operand} {ty : TypeId} {pos : String} {af : Array Edge} {g : Option (Nat × Bool)} {b o : Nat} (hx : ev ρ x = .pointer (some ⟨b, o, none⟩)) : Do Tryz.prog ⟨d, .fieldAddr 26 x 1, ty, pos, af, g⟩ ρ w (.pointer (some ⟨b, o + 1, none⟩)) w := yO (n := 1) (m := 1) (by kernel_rfl) (by decide) hx
theorem fa26_2 {ρ : Env} {w : World} {d : Option Tmp} {x : Operand} {ty : TypeId} {pos : String} {af : Array Edge} {g : Option (Nat × Bool)} {b o : Nat} (hx : ev ρ x = .pointer (some ⟨b, o, none⟩)) : Do Tryz.prog ⟨d, .fieldAddr 26 x 2, ty, pos, af, g⟩ ρ w (.pointer (some ⟨b, o + 2, none⟩)) w := yO (n := 1) (m := 2) (by kernel_rfl) (by decide) hx
theorem fa35_0 {ρ : Env} {w : World} {d : Option Tmp} {x : Operand} {ty : TypeId} {pos : String} {af : Array Edge} {g : Option (Nat × Bool)} {b o : Nat} (hx : ev ρ x = .pointer (some ⟨b, o, none⟩)) : Do Tryz.prog ⟨d, .fieldAddr 35 x 0, ty, pos, af, g⟩ ρ w (.pointer (some ⟨b, o + 0, none⟩)) w := yO (n := 1) (m := 0) (by kernel_rfl) (by decide) hx
theorem fa35_1 {ρ : Env} {w : World} {d : Option Tmp} {x : Operand} {ty : TypeId} {pos : String} {af : Array Edge} {g : Option (Nat × Bool)} {b o : Nat} (hx : ev ρ x = .pointer (some ⟨b, o, none⟩)) : Do Tryz.prog ⟨d, .fieldAddr 35 x 1, ty, pos, af, g⟩ ρ w (.pointer (some ⟨b, o + 1, none⟩)) w := yO (n := 1) (m := 1) (by kernel_rfl) (by decide) hx
theorem fa37_0 {ρ : Env} {w : World} {d : Option Tmp} {x : Operand} {ty : TypeId} {pos : String} {af : Array Edge} {g : Option (Nat × Bool)} {b o : Nat} (hx : ev ρ x = .pointer (some ⟨b, o, none⟩)) : Do Tryz.prog ⟨d, .fieldAddr 37 x 0, ty, pos, af, g⟩ ρ w (.pointer (some ⟨b, o + 0, none⟩)) w := yO (n := 1) (m := 0) (by kernel_rfl) (by decide) hx
theorem fa37_1 {ρ : Env} {w : World} {d : Option Tmp} {x : Operand} {ty : TypeId} {pos : String} {af : Array Edge} {g : Option (Nat × Bool)} {b o : Nat} (hx : ev ρ x = .pointer (some ⟨b, o, none⟩)) : Do Tryz.prog ⟨d, .fieldAddr 37 x 1, ty, pos, af, g⟩ ρ w (.pointer (some ⟨b, o + 1, none⟩)) w := yO (n := 2) (m := 1) (by kernel_rfl) (by decide) hx
theorem fa37_2 {ρ : Env} {w : World} {d : Option Tmp} {x : Operand} {ty : TypeId} {pos : String} {af : Array Edge} {g : Option (Nat × Bool)} {b o : Nat} (hx : ev ρ x = .pointer (some ⟨b, o, none⟩)) : Do Tryz.prog ⟨d, .fieldAddr 37 x 2, ty, pos, af, g⟩ ρ w (.pointer (some ⟨b, o + 3, none⟩)) w := yO (n := 1) (m := 3) (by kernel_rfl) (by decide) hx
theorem fa40_0 {ρ : Env} {w : World} {d : Option Tmp} {x : Operand} {ty : TypeId} {pos : String} {af : Array Edge} {g : Option (Nat × Bool)} {b o : Nat} (hx : ev ρ x = .pointer (some ⟨b, o, none⟩)) : Do Tryz.prog ⟨d, .fieldAddr 40 x 0, ty, pos, af, g⟩ ρ w (.pointer (some ⟨b, o + 0, none⟩)) w := yO (n := 1) (m := 0) (by kernel_rfl) (by decide) hx
theorem fa40_1 {ρ : Env} {w : World} {d : Option Tmp} {x : Operand} {ty : TypeId} {pos : String} {af : Array Edge} {g : Option (Nat × Bool)} {b o : Nat} (hx : ev ρ x = .pointer (some ⟨b, o, none⟩)) : Do Tryz.prog ⟨d, .fieldAddr 40 x 1, ty, pos, af, g⟩ ρ w (.pointer (some ⟨b, o + 1, none⟩)) w := yO (n := 1) (m := 1) (by kernel_rfl) (by decide) hx
theorem fa40_2 {ρ : Env} {w : World} {d : Option Tmp} {x : Operand} {ty : TypeId} {pos : String} {af : Array Edge} {g : Option (Nat × Bool)} {b o : Nat} (hx : ev ρ x = .pointer (some ⟨b, o, none⟩)) : Do Tryz.prog ⟨d, .fieldAddr 40 x 2, ty, pos, af, g⟩ ρ w (.pointer (some ⟨b, o + 2, none⟩)) w := yO (n := 1) (m := 2) (by kernel_rfl) (by decide) hx
theorem fa54_0 {ρ : Env} {w : World} {d : Option Tmp} {x : Operand} {ty : TypeId} {pos : String} {af : Array Edge} {g : Option (Nat × Bool)} {b o : Nat} (hx : ev ρ x = .pointer (some ⟨b, o, none⟩)) : Do Tryz.prog ⟨d, .fieldAddr 54 x 0, ty, pos, af, g⟩ ρ w (.pointer (some ⟨b, o + 0, none⟩)) w := yO (n := 1) (m := 0) (by kernel_rfl) (by decide) hx
theorem fa54_1 {ρ : Env} {w : World} {d : Option Tmp} {x : Operand} {ty : TypeId} {pos : String} {af : Array Edge} {g : Option (Nat × Bool)} {b o : Nat} (hx : ev ρ x = .pointer (some ⟨b, o, none⟩)) : Do Tryz.prog ⟨d, .fieldAddr 54 x 1, ty, pos, af, g⟩ ρ w (.pointer (some ⟨b, o + 1, none⟩)) w := yO (n := 1) (m := 1) (by kernel_rfl) (by decide) hx
theorem fa54_2 {ρ : Env} {w : World} {d : Option Tmp} {x : Operand} {ty : TypeId} {pos : String} {af : Array Edge} {g : Option (Nat × Bool)} {b o : Nat} (hx : ev ρ x = .pointer (some ⟨b, o, none⟩)) : Do Tryz.prog ⟨d, .fieldAddr 54 x 2, ty, pos, af, g⟩ ρ w (.pointer (some ⟨b, o + 2, none⟩)) w := yO (n := 1) (m := 2) (by kernel_rfl) (by decide) hx
theorem fa54_3 {ρ : Env} {w : World} {d : Option Tmp} {x : Operand} {ty : TypeId} {pos : String} {af : Array Edge} {g : Option (Nat × Bool)} {b o : Nat} (hx : ev ρ x = .pointer (some ⟨b, o, none⟩)) : Do Tryz.prog ⟨d, .fieldAddr 54 x 3, ty, pos, af, g⟩ ρ w (.pointer (some ⟨b, o + 3, none⟩)) w := yO (n := 1) (m := 3) (by kernel_rfl) (by decide) hx
theorem fa54_4 {ρ : Env} {w : World} {d : Option Tmp} {x : Operand} {ty : TypeId} {pos : String} {af : Array Edge} {g : Option (Nat × Bool)} {b o : Nat} (hx : ev ρ x = .pointer (some ⟨b, o, none⟩)) : Do Tryz.prog ⟨d, .fieldAddr 54 x 4, ty, pos, af, g⟩ ρ w (.pointer (some ⟨b, o + 4, none⟩)) w := yO (n := 1) (m := 4) (by kernel_rfl) (by decide) hx
theorem fa54_5 {ρ : Env} {w : World} {d : Option Tmp} {x : Operand} {ty : TypeId} {pos : String} {af : Array Edge} {g : Option (Nat × Bool)} {b o : Nat} (hx : ev ρ x = .pointer (some ⟨b, o, none⟩)) : Do Tryz.prog ⟨d, .fieldAddr 54 x 5, ty, pos, af, g⟩ ρ w (.pointer (some ⟨b, o + 5, none⟩)) w := yO (n := 1) (m := 5) (by kernel_rfl) (by decide) hx
theorem wB {ρ : Env} {w : World} {d : Option Tmp} {x : Operand} {ty : TypeId} {pos : String} {af : Array Edge} {g : Option (Nat × Bool)} {b o : Nat} (hx : ev ρ x = .pointer (some ⟨b, o, none⟩)) : Do Tryz.prog ⟨d, .fieldAddr 54 x 6, ty, pos, af, g⟩ ρ w (.pointer (some ⟨b, o + 6, none⟩)) w := yO (n := 1) (m := 6) (by kernel_rfl) (by decide) hx
theorem fa79_0 {ρ : Env} {w : World} {d : Option Tmp} {x : Operand} {ty : TypeId} {pos : String} {af : Array Edge} {g : Option (Nat × Bool)} {b o : Nat} (hx : ev ρ x = .pointer (some ⟨b, o, none⟩)) : Do Tryz.prog ⟨d, .fieldAddr 79 x 0, ty, pos, af, g⟩ ρ w (.pointer (some ⟨b, o + 0, none⟩)) w := yO (n := 1) (m := 0) (by kernel_rfl) (by decide) hx
theorem fa86_0 {ρ : Env} {w : World} {d : Option Tmp} {x : Operand} {ty : TypeId} {pos : String} {af : Array Edge} {g : Option (Nat × Bool)} {b o : Nat} (hx : ev ρ x = .pointer (some ⟨b, o, none⟩)) : Do Tryz.prog ⟨d, .fieldAddr 86 x 0, ty, pos, af, g⟩ ρ w (.pointer (some ⟨b, o + 0, none⟩)) w := yO (n := 1) (m := 0) (by kernel_rfl) (by decide) hx
theorem fa86_2 {ρ : Env} {w : World} {d : Option Tmp} {x : Operand} {ty : TypeId} {pos : String} {af : Array Edge} {g : Option (Nat × Bool)} {b o : Nat} (hx : ev ρ x = .pointer (some ⟨b, o, none⟩)) : Do Tryz.prog ⟨d, .fieldAddr 86 x 2, ty, pos, af, g⟩ ρ w (.pointer (some ⟨b, o + 2, none⟩)) w := yO (n := 1) (m := 2) (by kernel_rfl) (by decide) hx
theorem fa86_3 {ρ : Env} {w : World} {d : Option Tmp} {x : Operand} {ty : TypeId} {pos : String} {af : Array Edge} {g : Option (Nat × Bool)} {b o : Nat} (hx : ev ρ x = .pointer (some ⟨b, o, none⟩)) : Do Tryz.prog ⟨d, .fieldAddr 86 x 3, ty, pos, af, g⟩ ρ w (.pointer (some ⟨b, o + 3, none⟩)) w := yO (n := 1) (m := 3) (by kernel_rfl) (by decide) hx
theorem fa88_0 {ρ : Env} {w : World} {d : Option Tmp} {x : Operand} {ty : TypeId} {pos : String} {af : Array Edge} {g : Option (Nat × Bool)} {b o : Nat} (hx : ev ρ x = .pointer (some ⟨b, o, none⟩)) : Do Tryz.prog ⟨d, .fieldAddr 88 x 0, ty, pos, af, g⟩ ρ w (.pointer (some ⟨b, o + 0, none⟩)) w := yO (n := 1) (m := 0) (by kernel_rfl) (by decide) hx
theorem fa88_1 {ρ : Env} {w : World} {d : Option Tmp} {x : Operand} {ty : TypeId} {pos : String} {af : Array Edge} {g : Option (Nat × Bool)} {b o : Nat} (hx : ev ρ x = .pointer (some ⟨b, o, none⟩)) : Do Tryz.prog ⟨d, .fieldAddr 88 x 1, ty, pos, af, g⟩ ρ w (.pointer (some ⟨b, o + 1, none⟩)) w := yO (n := 1) (m := 1) (by kernel_rfl) (by decide) hx
theorem fa88_2 {ρ : Env} {w : World} {d : Option Tmp} {x : Operand} {ty : TypeId} {pos : String} {af : Array Edge} {g : Option (Nat × Bool)} {b o : Nat} (hx : ev ρ x = .pointer (some ⟨b, o, none⟩)) : Do Tryz.prog ⟨d, .fieldAddr 88 x 2, ty, pos, af, g⟩ ρ w (.pointer (some ⟨b, o + 2, none⟩)) w := yO (n := 4) (m := 2) (by kernel_rfl) (by decide) hx
theorem fa88_3 {ρ : Env} {w : World} {d : Option Tmp} {x : Operand} {ty : TypeId} {pos : String} {af : Array Edge} {g : Option (Nat × Bool)} {b o : Nat} (hx : ev ρ x = .pointer (some ⟨b, o, none⟩)) : Do Tryz.prog ⟨d, .fieldAddr 88 x 3, ty, pos, af, g⟩ ρ w (.pointer (some ⟨b, o + 6, none⟩)) w := yO (n := 3) (m := 6) (by kernel_rfl) (by decide) hx
theorem fa90_0 {ρ : Env} {w : World} {d : Option Tmp} {x : Operand} {ty : TypeId} {pos : String} {af : Array Edge} {g : Option (Nat × Bool)} {b o : Nat} (hx : ev ρ x = .pointer (some ⟨b, o, none⟩)) : Do Tryz.prog ⟨d, .fieldAddr 90 x 0, ty, pos, af, g⟩ ρ w (.pointer (some ⟨b, o + 0, none⟩)) w := yO (n := 1) (m := 0) (by kernel_rfl) (by decide) hx
theorem fa90_1 {ρ : Env} {w : World} {d : Option Tmp} {x : Operand} {ty : TypeId} {pos : String} {af : Array Edge} {g : Option (Nat × Bool)} {b o : Nat} (hx : ev ρ x = .pointer (some ⟨b, o, none⟩)) : Do Tryz.prog ⟨d, .fieldAddr 90 x 1, ty, pos, af, g⟩ ρ w (.pointer (some ⟨b, o + 1, none⟩)) w := yO (n := 1) (m := 1) (by kernel_rfl) (by decide) hx
theorem fa102_0 {ρ : Env} {w : World} {d : Option Tmp} {x : Operand} {ty : TypeId} {pos : String} {af : Array Edge} {g : Option (Nat × Bool)} {b o : Nat} (hx : ev ρ x = .pointer (some ⟨b, o, none⟩)) : Do Tryz.prog ⟨d, .fieldAddr 102 x 0, ty, pos, af, g⟩ ρ w (.pointer (some ⟨b, o + 0, none⟩)) w := yO (n := 1) (m := 0) (by kernel_rfl) (by decide) hx
theorem fa102_1 {ρ : Env} {w : World} {d : Option Tmp} {x : Operand} {ty : TypeId} {pos : String} {af : Array Edge} {g : Option (Nat × Bool)} {b o : Nat} (hx : ev ρ x = .pointer (some ⟨b, o, none⟩)) : Do Tryz.prog ⟨d, .fieldAddr 102 x 1, ty, pos, af, g⟩ ρ w (.pointer (some ⟨b, o + 1, none⟩)) w := yO (n := 1) (m := 1) (by kernel_rfl) (by decide) hx
theorem fa102_2 {ρ : Env} {w : World} {d : Option Tmp} {x : Operand} {ty : TypeId} {pos : String} {af : Array Edge} {g : Option (Nat × Bool)} {b o : Nat} (hx : ev ρ x = .pointer (some ⟨b, o, none⟩)) : Do Tryz.prog ⟨d, .fieldAddr 102 x 2, ty, pos, af, g⟩ ρ w (.pointer (some ⟨b, o + 2, none⟩)) w := yO (n := 7) (m := 2) (by kernel_rfl) (by decide) hx
theorem fa106_0 {ρ : Env} {w : World} {d : Option Tmp} {x : Operand} {ty : TypeId} {pos : String} {af : Array Edge} {g : Option (Nat × Bool)} {b o : Nat} (hx : ev ρ x = .pointer (some ⟨b, o, none⟩)) : Do Tryz.prog ⟨d, .fieldAddr 106 x 0, ty, pos, af, g⟩ ρ w (.pointer (some ⟨b, o + 0, none⟩)) w := yO (n := 1) (m := 0) (by kernel_rfl) (by decide) hx
theorem fa106_1 {ρ : Env} {w : World} {d : Option Tmp} {x : Operand} {ty : TypeId} {pos : String} {af : Array Edge} {g : Option (Nat × Bool)} {b o : Nat} (hx : ev ρ x = .pointer (some ⟨b, o, none⟩)) : Do Tryz.prog ⟨d, .fieldAddr 106 x 1, ty, pos, af, g⟩ ρ w (.pointer (some ⟨b, o + 1, none⟩)) w := yO (n := 7) (m := 1) (by kernel_rfl) (by decide) hx
theorem fa111_1 {ρ : Env} {w : World} {d : Option Tmp} {x : Operand} {ty : TypeId} {pos : String} {af : Array Edge} {g : Option (Nat × Bool)} {b o : Nat} (hx : ev ρ x = .pointer (some ⟨b, o, none⟩)) : Do Tryz.prog ⟨d, .fieldAddr 111 x 1, ty, pos, af, g⟩ ρ w (.pointer (some ⟨b, o + 1, none⟩)) w := yO (n := 1) (m := 1) (by kernel_rfl) (by decide) hx
theorem fa173_0 {ρ : Env} {w : World} {d : Option Tmp} {x : Operand} {ty : TypeId} {pos : String} {af : Array Edge} {g : Option (Nat × Bool)} {b o : Nat} (hx : ev ρ x = .pointer (some ⟨b, o, none⟩)) : Do Tryz.prog ⟨d, .fieldAddr 173 x 0, ty, pos, af, g⟩ ρ w (.pointer (some ⟨b, o + 0, none⟩)) w := yO (n := 1) (m := 0) (by kernel_rfl) (by decide) hx
theorem fa173_1 {ρ : Env} {w : World} {d : Option Tmp} {x : Operand} {ty : TypeId} {pos : String} {af : Array Edge} {g : Option (Nat × Bool)} {b o : Nat} (hx : ev ρ x = .pointer (some ⟨b, o, none⟩)) : Do Tryz.prog ⟨d, .fieldAddr 173 x 1, ty, pos, af, g⟩ ρ w (.pointer (some ⟨b, o + 1, none⟩)) w := yO (n := 1) (m := 1) (by kernel_rfl) (by decide) hx
theorem fa211_0 {ρ : Env} {w : World} {d : Option Tmp} {x : Operand} {ty : TypeId} {pos : String} {af : Array Edge} {g : Option (Nat × Bool)} {b o : Nat} (hx : ev ρ x = .pointer (some ⟨b, o, none⟩)) : Do Tryz.prog ⟨d, .fieldAddr 211 x 0, ty, pos, af, g⟩ ρ w (.pointer (some ⟨b, o + 0, none⟩)) w := yO (n := 1) (m := 0) (by kernel_rfl) (by decide) hx
theorem fa211_1 {ρ : Env} {w : World} {d : Option Tmp} {x : Operand} {ty : TypeId} {pos : String} {af : Array Edge} {g : Option (Nat × Bool)} {b o : Nat} (hx : ev ρ x = .pointer (some ⟨b, o, none⟩)) : Do Tryz.prog ⟨d, .fieldAddr 211 x 1, ty, pos, af, g⟩ ρ w (.pointer (some ⟨b, o + 1, none⟩)) w := yO (n := 1) (m := 1) (by kernel_rfl) (by decide) hx
theorem fa211_2 {ρ : Env} {w : World} {d : Option Tmp} {x : Operand} {ty : TypeId} {pos : String} {af : Array Edge} {g : Option (Nat × Bool)} {b o : Nat} (hx : ev ρ x = .pointer (some ⟨b, o, none⟩)) : Do Tryz.prog ⟨d, .fieldAddr 211 x 2, ty, pos, af, g⟩ ρ w (.pointer (some ⟨b, o + 2, none⟩)) w := yO (n := 1) (m := 2) (by kernel_rfl) (by decide) hx
theorem fa211_3 {ρ : Env} {w : World} {d : Option Tmp} {x : Operand} {ty : TypeId} {pos : String} {af : Array Edge} {g : Option (Nat × Bool)} {b o : Nat} (hx : ev ρ x = .pointer (some ⟨b, o, none⟩)) : Do Tryz.prog ⟨d, .fieldAddr 211 x 3, ty, pos, af, g⟩ ρ w (.pointer (some ⟨b, o + 3, none⟩)) w := yO (n := 1) (m := 3) (by kernel_rfl) (by decide) hx
theorem fa211_4 {ρ : Env} {w : World} {d : Option Tmp} {x : Operand} {ty : TypeId} {pos : String} {af : Array Edge} {g : Option (Nat × Bool)} {b o : Nat} (hx : ev ρ x = .pointer (some ⟨b, o, none⟩)) : Do Tryz.prog ⟨d, .fieldAddr 211 x 4, ty, pos, af, g⟩ ρ w (.pointer (some ⟨b, o + 4, none⟩)) w := yO (n := 1) (m := 4) (by kernel_rfl) (by decide) hx
theorem wI {ρ : Env} {w : World} {d : Option Tmp} {x : Operand} {ty : TypeId} {pos : String} {af : Array Edge} {g : Option (Nat × Bool)} {b o : Nat} (hx : ev ρ x = .pointer (some ⟨b, o, none⟩)) : Do Tryz.prog ⟨d, .fieldAddr 211 x 5, ty, pos, af, g⟩ ρ w (.pointer (some ⟨b, o + 5, none⟩)) w := yO (n := 1) (m := 5) (by kernel_rfl) (by decide) hx
theorem wG {ρ : Env} {w : World} {d : Option Tmp} {x : Operand} {ty : TypeId} {pos : String} {af : Array Edge} {g : Option (Nat × Bool)} {b o : Nat} (hx : ev ρ x = .pointer (some ⟨b, o, none⟩)) : Do Tryz.prog ⟨d, .fieldAddr 211 x 6, ty, pos, af, g⟩ ρ w (.pointer (some ⟨b, o + 6, none⟩)) w := yO (n := 1) (m := 6) (by kernel_rfl) (by decide) hx
theorem en13 : Go.OB.Enters Tryz.prog 13 := ⟨_, Tryz.func13, rfl, by kernel_rfl⟩
theorem en15 : Go.OB.Enters Tryz.prog 15 := ⟨_, Tryz.func15, rfl, by kernel_rfl⟩
theorem en16 : Go.OB.Enters Tryz.prog 16 := ⟨_, Tryz.func16, rfl, by kernel_rfl⟩
theorem en25 : Go.OB.Enters Tryz.prog 25 := ⟨_, Tryz.func25, rfl, by kernel_rfl⟩
theorem en26 : Go.OB.Enters Tryz.prog 26 := ⟨_, Tryz.func26, rfl, by kernel_rfl⟩
theorem en27 : Go.OB.Enters Tryz.prog 27 := ⟨_, Tryz.func27, rfl, by kernel_rfl⟩
theorem en28 : Go.OB.Enters Tryz.prog 28 := ⟨_, Tryz.func28, rfl, by kernel_rfl⟩
theorem en29 : Go.OB.Enters Tryz.prog 29 := ⟨_, Tryz.func29, rfl, by kernel_rfl⟩
theorem en35 : Go.OB.Enters Tryz.prog 35 := ⟨_, Tryz.func35, rfl, by kernel_rfl⟩
theorem en36 : Go.OB.Enters Tryz.prog 36 := ⟨_, Tryz.func36, rfl, by kernel_rfl⟩
theorem en37 : Go.OB.Enters Tryz.prog 37 := ⟨_, Tryz.func37, rfl, by kernel_rfl⟩
theorem en38 : Go.OB.Enters Tryz.prog 38 := ⟨_, Tryz.func38, rfl, by kernel_rfl⟩
theorem en40 : Go.OB.Enters Tryz.prog 40 := ⟨_, Tryz.func40, rfl, by kernel_rfl⟩
theorem en50 : Go.OB.Enters Tryz.prog 50 := ⟨_, Tryz.func50, rfl, by kernel_rfl⟩
theorem en51 : Go.OB.Enters Tryz.prog 51 := ⟨_, Tryz.func51, rfl, by kernel_rfl⟩
theorem en52 : Go.OB.Enters Tryz.prog 52 := ⟨_, Tryz.func52, rfl, by kernel_rfl⟩
theorem en53 : Go.OB.Enters Tryz.prog 53 := ⟨_, Tryz.func53, rfl, by kernel_rfl⟩
theorem en56 : Go.OB.Enters Tryz.prog 56 := ⟨_, Tryz.func56, rfl, by kernel_rfl⟩
theorem en60 : Go.OB.Enters Tryz.prog 60 := ⟨_, Tryz.func60, rfl, by kernel_rfl⟩
theorem en63 : Go.OB.Enters Tryz.prog 63 := ⟨_, Tryz.func63, rfl, by kernel_rfl⟩
theorem en65 : Go.OB.Enters Tryz.prog 65 := ⟨_, Tryz.func65, rfl, by kernel_rfl⟩
theorem en68 : Go.OB.Enters Tryz.prog 68 := ⟨_, Tryz.func68, rfl, by kernel_rfl⟩
theorem en69 : Go.OB.Enters Tryz.prog 69 := ⟨_, Tryz.func69, rfl, by kernel_rfl⟩
theorem en70 : Go.OB.Enters Tryz.prog 70 := ⟨_, Tryz.func70, rfl, by kernel_rfl⟩
theorem en71 : Go.OB.Enters Tryz.prog 71 := ⟨_, Tryz.func71, rfl, by kernel_rfl⟩
theorem en72 : Go.OB.Enters Tryz.prog 72 := ⟨_, Tryz.func72, rfl, by kernel_rfl⟩
theorem en73 : Go.OB.Enters Tryz.prog 73 := ⟨_, Tryz.func73, rfl, by kernel_rfl⟩
theorem en74 : Go.OB.Enters Tryz.prog 74 := ⟨_, Tryz.func74, rfl, by kernel_rfl⟩
theorem en75 : Go.OB.Enters Tryz.prog 75 := ⟨_, Tryz.func75, rfl, by kernel_rfl⟩
theorem en76 : Go.OB.Enters Tryz.prog 76 := ⟨_, Tryz.func76, rfl, by kernel_rfl⟩
theorem en85 : Go.OB.Enters Tryz.prog 85 := ⟨_, Tryz.func85, rfl, by kernel_rfl⟩
theorem en87 : Go.OB.Enters Tryz.prog 87 := ⟨_, Tryz.func87, rfl, by kernel_rfl⟩
theorem en88 : Go.OB.Enters Tryz.prog 88 := ⟨_, Tryz.func88, rfl, by kernel_rfl⟩
theorem en89 : Go.OB.Enters Tryz.prog 89 := ⟨_, Tryz.func89, rfl, by kernel_rfl⟩
theorem en90 : Go.OB.Enters Tryz.prog 90 := ⟨_, Tryz.func90, rfl, by kernel_rfl⟩
theorem en91 : Go.OB.Enters Tryz.prog 91 := ⟨_, Tryz.func91, rfl, by kernel_rfl⟩
theorem en92 : Go.OB.Enters Tryz.prog 92 := ⟨_, Tryz.func92, rfl, by kernel_rfl⟩
theorem en93 : Go.OB.Enters Tryz.prog 93 := ⟨_, Tryz.func93, rfl, by kernel_rfl⟩
theorem en94 : Go.OB.Enters Tryz.prog 94 := ⟨_, Tryz.func94, rfl, by kernel_rfl⟩
theorem en101 : Go.OB.Enters Tryz.prog 101 := ⟨_, Tryz.func101, rfl, by kernel_rfl⟩
theorem en102 : Go.OB.Enters Tryz.prog 102 := ⟨_, Tryz.func102, rfl, by kernel_rfl⟩
theorem en103 : Go.OB.Enters Tryz.prog 103 := ⟨_, Tryz.func103, rfl, by kernel_rfl⟩
theorem en104 : Go.OB.Enters Tryz.prog 104 := ⟨_, Tryz.func104, rfl, by kernel_rfl⟩
theorem en107 : Go.OB.Enters Tryz.prog 107 := ⟨_, Tryz.func107, rfl, by kernel_rfl⟩
theorem en108 : Go.OB.Enters Tryz.prog 108 := ⟨_, Tryz.func108, rfl, by kernel_rfl⟩
theorem en109 : Go.OB.Enters Tryz.prog 109 := ⟨_, Tryz.func109, rfl, by kernel_rfl⟩
theorem en118 : Go.OB.Enters Tryz.prog 118 := ⟨_, Tryz.func118, rfl, by kernel_rfl⟩
theorem en119 : Go.OB.Enters Tryz.prog 119 := ⟨_, Tryz.func119, rfl, by kernel_rfl⟩
theorem en120 : Go.OB.Enters Tryz.prog 120 := ⟨_, Tryz.func120, rfl, by kernel_rfl⟩
theorem en121 : Go.OB.Enters Tryz.prog 121 := ⟨_, Tryz.func121, rfl, by kernel_rfl⟩
theorem en122 : Go.OB.Enters Tryz.prog 122 := ⟨_, Tryz.func122, rfl, by kernel_rfl⟩
theorem en123 : Go.OB.Enters Tryz.prog 123 := ⟨_, Tryz.func123, rfl, by kernel_rfl⟩
theorem en124 : Go.OB.Enters Tryz.prog 124 := ⟨_, Tryz.func124, rfl, by kernel_rfl⟩
theorem en125 : Go.OB.Enters Tryz.prog 125 := ⟨_, Tryz.func125, rfl, by kernel_rfl⟩
theorem en126 : Go.OB.Enters Tryz.prog 126 := ⟨_, Tryz.func126, rfl, by kernel_rfl⟩
theorem en127 : Go.OB.Enters Tryz.prog 127 := ⟨_, Tryz.func127, rfl, by kernel_rfl⟩
theorem en136 : Go.OB.Enters Tryz.prog 136 := ⟨_, Tryz.func136, rfl, by kernel_rfl⟩
theorem en137 : Go.OB.Enters Tryz.prog 137 := ⟨_, Tryz.func137, rfl, by kernel_rfl⟩
theorem en138 : Go.OB.Enters Tryz.prog 138 := ⟨_, Tryz.func138, rfl, by kernel_rfl⟩
theorem en139 : Go.OB.Enters Tryz.prog 139 := ⟨_, Tryz.func139, rfl, by kernel_rfl⟩
theorem en140 : Go.OB.Enters Tryz.prog 140 := ⟨_, Tryz.func140, rfl, by kernel_rfl⟩
theorem en141 : Go.OB.Enters Tryz.prog 141 := ⟨_, Tryz.func141, rfl, by kernel_rfl⟩
theorem en142 : Go.OB.Enters Tryz.prog 142 := ⟨_, Tryz.func142, rfl, by kernel_rfl⟩
theorem en143 : Go.OB.Enters Tryz.prog 143 := ⟨_, Tryz.func143, rfl, by kernel_rfl⟩
theorem en144 : Go.OB.Enters Tryz.prog 144 := ⟨_, Tryz.func144, rfl, by kernel_rfl⟩
theorem en145 : Go.OB.Enters Tryz.prog 145 := ⟨_, Tryz.func145, rfl, by kernel_rfl⟩
theorem en146 : Go.OB.Enters Tryz.prog 146 := ⟨_, Tryz.func146, rfl, by kernel_rfl⟩
theorem en147 : Go.OB.Enters Tryz.prog 147 := ⟨_, Tryz.func147, rfl, by kernel_rfl⟩
theorem en148 : Go.OB.Enters Tryz.prog 148 := ⟨_, Tryz.func148, rfl, by kernel_rfl⟩
theorem en149 : Go.OB.Enters Tryz.prog 149 := ⟨_, Tryz.func149, rfl, by kernel_rfl⟩
theorem en156 : Go.OB.Enters Tryz.prog 156 := ⟨_, Tryz.func156, rfl, by kernel_rfl⟩
theorem en157 : Go.OB.Enters Tryz.prog 157 := ⟨_, Tryz.func157, rfl, by kernel_rfl⟩
theorem en159 : Go.OB.Enters Tryz.prog 159 := ⟨_, Tryz.func159, rfl, by kernel_rfl⟩
theorem en160 : Go.OB.Enters Tryz.prog 160 := ⟨_, Tryz.func160, rfl, by kernel_rfl⟩
theorem en161 : Go.OB.Enters Tryz.prog 161 := ⟨_, Tryz.func161, rfl, by kernel_rfl⟩
theorem en162 : Go.OB.Enters Tryz.prog 162 := ⟨_, Tryz.func162, rfl, by kernel_rfl⟩
theorem en163 : Go.OB.Enters Tryz.prog 163 := ⟨_, Tryz.func163, rfl, by kernel_rfl⟩
theorem en164 : Go.OB.Enters Tryz.prog 164 := ⟨_, Tryz.func164, rfl, by kernel_rfl⟩
theorem en165 : Go.OB.Enters Tryz.prog 165 := ⟨_, Tryz.func165, rfl, by kernel_rfl⟩
theorem en173 : Go.OB.Enters Tryz.prog 173 := ⟨_, Tryz.func173, rfl, by kernel_rfl⟩
theorem en174 : Go.OB.Enters Tryz.prog 174 := ⟨_, Tryz.func174, rfl, by kernel_rfl⟩
theorem en175 : Go.OB.Enters Tryz.prog 175 := ⟨_, Tryz.func175, rfl, by kernel_rfl⟩
theorem en176 : Go.OB.Enters Tryz.prog 176 := ⟨_, Tryz.func176, rfl, by kernel_rfl⟩
theorem en177 : Go.OB.Enters Tryz.prog 177 := ⟨_, Tryz.func177, rfl, by kernel_rfl⟩
theorem en178 : Go.OB.Enters Tryz.prog 178 := ⟨_, Tryz.func178, rfl, by kernel_rfl⟩
theorem en179 : Go.OB.Enters Tryz.prog 179 := ⟨_, Tryz.func179, rfl, by kernel_rfl⟩
theorem en180 : Go.OB.Enters Tryz.prog 180 := ⟨_, Tryz.func180, rfl, by kernel_rfl⟩
theorem en181 : Go.OB.Enters Tryz.prog 181 := ⟨_, Tryz.func181, rfl, by kernel_rfl⟩
theorem en182 : Go.OB.Enters Tryz.prog 182 := ⟨_, Tryz.func182, rfl, by kernel_rfl⟩
theorem en190 : Go.OB.Enters Tryz.prog 190 := ⟨_, Tryz.func190, rfl, by kernel_rfl⟩
theorem en191 : Go.OB.Enters Tryz.prog 191 := ⟨_, Tryz.func191, rfl, by kernel_rfl⟩
theorem en192 : Go.OB.Enters Tryz.prog 192 := ⟨_, Tryz.func192, rfl, by kernel_rfl⟩
theorem en193 : Go.OB.Enters Tryz.prog 193 := ⟨_, Tryz.func193, rfl, by kernel_rfl⟩
theorem en202 : Go.OB.Enters Tryz.prog 202 := ⟨_, Tryz.func202, rfl, by kernel_rfl⟩
theorem en205 : Go.OB.Enters Tryz.prog 205 := ⟨_, Tryz.func205, rfl, by kernel_rfl⟩
theorem en209 : Go.OB.Enters Tryz.prog 209 := ⟨_, Tryz.func209, rfl, by kernel_rfl⟩
theorem en210 : Go.OB.Enters Tryz.prog 210 := ⟨_, Tryz.func210, rfl, by kernel_rfl⟩
theorem mixed : Tryz.prog.follows .mixedOrders = true := by kernel_rfl
end Go.Proofs.YtnajnkghilemhaaGreatDoor.L
namespace Go.Proofs.YtnajnkghilemhaaGreatDoor.L
open Go.RowKit Go.OB Go.Lf
/- orangebox/event.within -/
set_option maxHeartbeats 4000000 in
theorem F_event_within_w (p0 : Int) (p1 : Int) (p2 : Int) (r : Bool) (hF : F_event_within p0 p1 p2 = some r) (O S : List Nat) (w : World) (H : Hd O w w S []) :
  Calls Tryz.prog 60 ([.int .i64 p0, .int .i64 p1, .int .i64 p2] : List Value).toArray w fun e w' => e = .returned (.bool r) ∧ Hd O w w' S [] := by
 unfold F_event_within at hF
 refine yD 15 Tryz.func60 rfl rfl rfl ?_
 refine zD fun K1 hK1 => ?_
 refine zC ?_
 refine zA rfl rfl (zG (v := .bool false) rfl) ?_
 refine (zJ (zB (hK1 _ _ ?_)))
 obtain ⟨g7, hF, hK9⟩ := zI hF
 refine yQ [6, 7, 8, 9, 10, 11, 12, 13, 14] (fun (g : Unit) => [(6, .bool g7)]) (fun g wl => Hd O w wl S []) ?_ ?_
 ·skip
  refine zC ?_
  refine zA rfl rfl (zK (v := .int .i64 p0) rfl) ?_
  refine zA rfl rfl (zK (v := .int .i64 p1) rfl) ?_
  obtain ⟨x10, e11, hF⟩ := zF hF
  refine zA rfl rfl (zM (Do_geq (a := p0) (b := p1) rfl rfl) (congrArg Value.bool e11)) ?_
  refine yE (b := x10) rfl rfl rfl (fun c12 => ?_) (fun c12 => ?_)
  ·have hF := zV c12 hF
   refine zA rfl rfl (zK (v := .int .i64 p0) rfl) ?_
   refine zA rfl rfl (zK (v := .int .i64 p2) rfl) ?_
   obtain ⟨x13, e14, hF⟩ := zF hF
   refine zA rfl rfl (zM (Do_leq (a := p0) (b := p2) rfl rfl) (congrArg Value.bool e14)) ?_
   refine zA rfl rfl (zY (v := .bool x13) rfl rfl) ?_
   refine zA rfl rfl (zG (v := .bool x13) rfl) ?_
   have hR := Option.some.inj hF
   subst hR
   refine (zJ (zB (And.intro ?_ ?_)))
   ·repeat' (first | with_reducible exact zS | refine zZ rfl ?_ | refine zT rfl rfl ?_)
   exact ⟨(), (zQ rfl zU), H.pick [] (by decide)⟩
  have hF := zW c12 hF
  refine zH rfl rfl ?_
  refine zH rfl rfl ?_
  refine zH rfl rfl ?_
  refine zA rfl rfl (zN (v := .bool false) rfl rfl) ?_
  refine zA rfl rfl (zG (v := .bool false) rfl) ?_
  have hR := Option.some.inj hF
  subst hR
  refine (zJ (zB (And.intro ?_ ?_)))
  ·repeat' (first | with_reducible exact zS | refine zZ rfl ?_ | refine zT rfl rfl ?_)
  exact ⟨(), (zQ rfl zU), H.pick [] (by decide)⟩
 rintro _ ρ w8 H
 have hF := hK9
 have hR := Option.some.inj hF
 subst hR
 refine (yG (post1 (v1 := .bool g7) rfl rfl ?_))
 exact ⟨rfl, H.pick [] (by decide)⟩
end Go.Proofs.YtnajnkghilemhaaGreatDoor.L
namespace Go.Proofs.YtnajnkghilemhaaGreatDoor.L
open Go.RowKit Go.OB Go.Lf
/- orangebox/event.nameByte -/
set_option maxHeartbeats 4000000 in
set_option maxRecDepth 100000 in
theorem F_event_nameByte_w (p0 : Int) (r : Bool) (hF : F_event_nameByte p0 = some r) (O S : List Nat) (w : World) (H : Hd O w w S []) :
  Calls Tryz.prog 120 ([.int .u8 p0] : List Value).toArray w fun e w' => e = .returned (.bool r) ∧ Hd O w w' S [] := by
 unfold F_event_nameByte at hF
 refine yD 21 Tryz.func120 rfl rfl rfl ?_
 refine zD fun K1 hK1 => ?_
 refine zC ?_
 refine zA rfl rfl (zG (v := .bool false) rfl) ?_
 refine (zJ (zB (hK1 _ _ ?_)))
 obtain ⟨g28, hF, hK30⟩ := zI hF
 refine yQ [2, 3, 4, 5, 6, 7, 8, 9, 10, 11, 12, 13, 14, 15, 16, 17, 18, 19, 20] (fun (g : Unit) => [(2, .bool g28)]) (fun g wl => Hd O w wl S []) ?_ ?_
 ·skip
  refine zC ?_
  refine zA rfl rfl (zK (v := .int .u8 p0) rfl) ?_
  obtain ⟨x31, e32, hF⟩ := zF hF
  refine zA rfl rfl (zM (Do_geq (a := p0) (b := 97) rfl rfl) (congrArg Value.bool e32)) ?_
  refine yE (b := x31) rfl rfl rfl (fun c33 => ?_) (fun c33 => ?_)
  ·have hF := zV c33 hF
   refine zA rfl rfl (zK (v := .int .u8 p0) rfl) ?_
   obtain ⟨x34, e35, hF⟩ := zF hF
   refine zA rfl rfl (zM (Do_leq (a := p0) (b := 122) rfl rfl) (congrArg Value.bool e35)) ?_
   refine zA rfl rfl (zY (v := .bool x34) rfl rfl) ?_
   refine yE (b := x34) rfl rfl rfl (fun c36 => ?_) (fun c36 => ?_)
   ·have hF := zV c36 hF
    refine zH rfl rfl ?_
    refine zH rfl rfl ?_
    refine zH rfl rfl ?_
    refine zH rfl rfl ?_
    refine zH rfl rfl ?_
    refine zH rfl rfl ?_
    refine zA rfl rfl (zY (v := .bool true) rfl rfl) ?_
    refine zA rfl rfl (zK (v := .bool true) rfl) ?_
    refine zH rfl rfl ?_
    refine zH rfl rfl ?_
    refine zA rfl rfl (zY (v := .bool true) rfl rfl) ?_
    refine zA rfl rfl (zG (v := .bool true) rfl) ?_
    have hR := Option.some.inj hF
    subst hR
    refine (zJ (zB (And.intro ?_ ?_)))
    ·repeat' (first | with_reducible exact zS | refine zZ rfl ?_ | refine zT rfl rfl ?_)
    exact ⟨(), (zQ rfl zU), H.pick [] (by decide)⟩
   have hF := zW c36 hF
   refine zA rfl rfl (zK (v := .int .u8 p0) rfl) ?_
   obtain ⟨x37, e38, hF⟩ := zF hF
   refine zA rfl rfl (zM (Do_geq (a := p0) (b := 48) rfl rfl) (congrArg Value.bool e38)) ?_
   refine yE (b := x37) rfl rfl rfl (fun c39 => ?_) (fun c39 => ?_)
   ·have hF := zV c39 hF
    refine zA rfl rfl (zK (v := .int .u8 p0) rfl) ?_
    obtain ⟨x40, e41, hF⟩ := zF hF
    refine zA rfl rfl (zM (Do_leq (a := p0) (b := 57) rfl rfl) (congrArg Value.bool e41)) ?_
    refine zA rfl rfl (zY (v := .bool x40) rfl rfl) ?_
    refine zA rfl rfl (zN (v := .bool x40) rfl rfl) ?_
    refine yE (b := x40) rfl rfl rfl (fun c42 => ?_) (fun c42 => ?_)
    ·have hF := zV c42 hF
     refine zH rfl rfl ?_
     refine zH rfl rfl ?_
     refine zA rfl rfl (zY (v := .bool true) rfl rfl) ?_
     refine zA rfl rfl (zG (v := .bool true) rfl) ?_
     have hR := Option.some.inj hF
     subst hR
     refine (zJ (zB (And.intro ?_ ?_)))
     ·repeat' (first | with_reducible exact zS | refine zZ rfl ?_ | refine zT rfl rfl ?_)
     exact ⟨(), (zQ rfl zU), H.pick [] (by decide)⟩
    have hF := zW c42 hF
    refine zA rfl rfl (zK (v := .int .u8 p0) rfl) ?_
    obtain ⟨x43, e44, hF⟩ := zF hF
    refine zA rfl rfl (zM (xC (a := p0) (b := 45) rfl rfl) (congrArg Value.bool e44)) ?_
    refine zA rfl rfl (zN (v := .bool x43) rfl rfl) ?_
    refine zA rfl rfl (zG (v := .bool x43) rfl) ?_
    have hR := Option.some.inj hF
    subst hR
    refine (zJ (zB (And.intro ?_ ?_)))
    ·repeat' (first | with_reducible exact zS | refine zZ rfl ?_ | refine zT rfl rfl ?_)
    exact ⟨(), (zQ rfl zU), H.pick [] (by decide)⟩
   have hF := zW c39 hF
   refine zH rfl rfl ?_
   refine zH rfl rfl ?_
   refine zA rfl rfl (zN (v := .bool false) rfl rfl) ?_
   refine zA rfl rfl (zN (v := .bool false) rfl rfl) ?_
   refine zA rfl rfl (zK (v := .bool false) rfl) ?_
   refine zA rfl rfl (zK (v := .int .u8 p0) rfl) ?_
   obtain ⟨x45, e46, hF⟩ := zF hF
   refine zA rfl rfl (zM (xC (a := p0) (b := 45) rfl rfl) (congrArg Value.bool e46)) ?_
   refine zA rfl rfl (zN (v := .bool x45) rfl rfl) ?_
   refine zA rfl rfl (zG (v := .bool x45) rfl) ?_
   have hR := Option.some.inj hF
   subst hR
   refine (zJ (zB (And.intro ?_ ?_)))
   ·repeat' (first | with_reducible exact zS | refine zZ rfl ?_ | refine zT rfl rfl ?_)
   exact ⟨(), (zQ rfl zU), H.pick [] (by decide)⟩
  have hF := zW c33 hF
  refine zH rfl rfl ?_
  refine zH rfl rfl ?_
  refine zA rfl rfl (zN (v := .bool false) rfl rfl) ?_
  refine zA rfl rfl (zK (v := .bool false) rfl) ?_
  refine zA rfl rfl (zK (v := .int .u8 p0) rfl) ?_
  obtain ⟨x47, e48, hF⟩ := zF hF
  refine zA rfl rfl (zM (Do_geq (a := p0) (b := 48) rfl rfl) (congrArg Value.bool e48)) ?_
  refine yE (b := x47) rfl rfl rfl (fun c49 => ?_) (fun c49 => ?_)
  ·have hF := zV c49 hF
   refine zA rfl rfl (zK (v := .int .u8 p0) rfl) ?_
   obtain ⟨x50, e51, hF⟩ := zF hF
   refine zA rfl rfl (zM (Do_leq (a := p0) (b := 57) rfl rfl) (congrArg Value.bool e51)) ?_
   refine zA rfl rfl (zY (v := .bool x50) rfl rfl) ?_
   refine zA rfl rfl (zN (v := .bool x50) rfl rfl) ?_
   refine yE (b := x50) rfl rfl rfl (fun c52 => ?_) (fun c52 => ?_)
   ·have hF := zV c52 hF
    refine zH rfl rfl ?_
    refine zH rfl rfl ?_
    refine zA rfl rfl (zY (v := .bool true) rfl rfl) ?_
    refine zA rfl rfl (zG (v := .bool true) rfl) ?_
    have hR := Option.some.inj hF
    subst hR
    refine (zJ (zB (And.intro ?_ ?_)))
    ·repeat' (first | with_reducible exact zS | refine zZ rfl ?_ | refine zT rfl rfl ?_)
    exact ⟨(), (zQ rfl zU), H.pick [] (by decide)⟩
   have hF := zW c52 hF
   refine zA rfl rfl (zK (v := .int .u8 p0) rfl) ?_
   obtain ⟨x53, e54, hF⟩ := zF hF
   refine zA rfl rfl (zM (xC (a := p0) (b := 45) rfl rfl) (congrArg Value.bool e54)) ?_
   refine zA rfl rfl (zN (v := .bool x53) rfl rfl) ?_
   refine zA rfl rfl (zG (v := .bool x53) rfl) ?_
   have hR := Option.some.inj hF
   subst hR
   refine (zJ (zB (And.intro ?_ ?_)))
   ·repeat' (first | with_reducible exact zS | refine zZ rfl ?_ | refine zT rfl rfl ?_)
   exact ⟨(), (zQ rfl zU), H.pick [] (by decide)⟩
  have hF := zW c49 hF
  refine zH rfl rfl ?_
  refine zH rfl rfl ?_
  refine zA rfl rfl (zN (v := .bool false) rfl rfl) ?_
  refine zA rfl rfl (zN (v := .bool false) rfl rfl) ?_
  refine zA rfl rfl (zK (v := .bool false) rfl) ?_
  refine zA rfl rfl (zK (v := .int .u8 p0) rfl) ?_
  obtain ⟨x55, e56, hF⟩ := zF hF
  refine zA rfl rfl (zM (xC (a := p0) (b := 45) rfl rfl) (congrArg Value.bool e56)) ?_
  refine zA rfl rfl (zN (v := .bool x55) rfl rfl) ?_
  refine zA rfl rfl (zG (v := .bool x55) rfl) ?_
  have hR := Option.some.inj hF
  subst hR
  refine (zJ (zB (And.intro ?_ ?_)))
  ·repeat' (first | with_reducible exact zS | refine zZ rfl ?_ | refine zT rfl rfl ?_)
  exact ⟨(), (zQ rfl zU), H.pick [] (by decide)⟩
 rintro _ ρ w29 H
 have hF := hK30
 have hR := Option.some.inj hF
 subst hR
 refine (yG (post1 (v1 := .bool g28) rfl rfl ?_))
 exact ⟨rfl, H.pick [] (by decide)⟩
end Go.Proofs.YtnajnkghilemhaaGreatDoor.L
namespace Go.Proofs.YtnajnkghilemhaaGreatDoor.L
open Go.RowKit Go.OB Go.Lf
/- orangebox/event.isWord -/
set_option maxHeartbeats 4000000 in
set_option maxRecDepth 100000 in
theorem F_event_isWord_w (p0 : Str) (r : Bool) (hF : F_event_isWord p0 = some r) (O S : List Nat) (w : World) (H : Hd O w w S []) :
  Calls Tryz.prog 119 ([.string (bs p0)] : List Value).toArray w fun e w' => e = .returned (.bool r) ∧ Hd O w w' S [] := by
 unfold F_event_isWord at hF
 refine yD 21 Tryz.func119 rfl rfl rfl ?_
 refine zD fun K1 hK1 => ?_
 refine zC ?_
 refine zA rfl rfl (zG (v := .bool false) rfl) ?_
 refine (zJ (zB (hK1 _ _ ?_)))
 refine zD fun K70 hK70 => ?_
 refine zD fun K71 hK71 => ?_
 refine zC ?_
 refine zA rfl rfl (zK (v := .string (bs p0)) rfl) ?_
 refine (zJ (zB (hK71 _ _ ?_)))
 refine yM ?_
 obtain ⟨g134, hF, hK136⟩ := zI hF
 refine yQ [4, 5, 6, 7, 8, 9, 10, 11, 12, 13, 14, 15, 16, 17, 18, 19, 20] (fun (g : Unit) => [(4, .bool g134)]) (fun g wl => Hd O w wl S []) ?_ ?_
 ·skip
  refine zD fun K137 hK137 => ?_
  refine zC ?_
  obtain ⟨x138, e139, hF⟩ := zF hF
  refine zA rfl rfl (zM (xU (s1 := p0) (s2 := [112, 104, 97, 115, 101]) rfl rfl) (congrArg Value.bool e139)) ?_
  refine zA rfl rfl (zG (v := .bool x138) rfl) ?_
  refine (zJ (zB (hK137 _ _ ?_)))
  refine yH (b := x138) rfl (fun c140 => ?_) (fun c140 => ?_)
  ·have hF := zV c140 hF
   have hR := Option.some.inj hF
   subst hR
   refine (yI (zB (And.intro ?_ ?_)))
   ·repeat' (first | with_reducible exact zS | refine zZ rfl ?_ | refine zT rfl rfl ?_)
   exact ⟨(), (zQ rfl zU), H.pick [] (by decide)⟩
  have hF := zW c140 hF
  refine zD fun K141 hK141 => ?_
  refine zC ?_
  obtain ⟨x142, e143, hF⟩ := zF hF
  refine zA rfl rfl (zM (xU (s1 := p0) (s2 := [109, 111, 118, 101]) rfl rfl) (congrArg Value.bool e143)) ?_
  refine zA rfl rfl (zG (v := .bool x142) rfl) ?_
  refine (zJ (zB (hK141 _ _ ?_)))
  refine yH (b := x142) rfl (fun c144 => ?_) (fun c144 => ?_)
  ·have hF := zV c144 hF
   have hR := Option.some.inj hF
   subst hR
   refine (yI (zB (And.intro ?_ ?_)))
   ·repeat' (first | with_reducible exact zS | refine zZ rfl ?_ | refine zT rfl rfl ?_)
   exact ⟨(), (zQ rfl zU), H.pick [] (by decide)⟩
  have hF := zW c144 hF
  refine zD fun K145 hK145 => ?_
  refine zC ?_
  obtain ⟨x146, e147, hF⟩ := zF hF
  refine zA rfl rfl (zM (xU (s1 := p0) (s2 := [114, 117, 108, 101]) rfl rfl) (congrArg Value.bool e147)) ?_
  refine zA rfl rfl (zG (v := .bool x146) rfl) ?_
  refine (zJ (zB (hK145 _ _ ?_)))
  refine yH (b := x146) rfl (fun c148 => ?_) (fun c148 => ?_)
  ·have hF := zV c148 hF
   have hR := Option.some.inj hF
   subst hR
   refine (yI (zB (And.intro ?_ ?_)))
   ·repeat' (first | with_reducible exact zS | refine zZ rfl ?_ | refine zT rfl rfl ?_)
   exact ⟨(), (zQ rfl zU), H.pick [] (by decide)⟩
  have hF := zW c148 hF
  refine zD fun K149 hK149 => ?_
  refine zC ?_
  obtain ⟨x150, e151, hF⟩ := zF hF
  refine zA rfl rfl (zM (xU (s1 := p0) (s2 := [105, 102]) rfl rfl) (congrArg Value.bool e151)) ?_
  refine zA rfl rfl (zG (v := .bool x150) rfl) ?_
  refine (zJ (zB (hK149 _ _ ?_)))
  refine yH (b := x150) rfl (fun c152 => ?_) (fun c152 => ?_)
  ·have hF := zV c152 hF
   have hR := Option.some.inj hF
   subst hR
   refine (yI (zB (And.intro ?_ ?_)))
   ·repeat' (first | with_reducible exact zS | refine zZ rfl ?_ | refine zT rfl rfl ?_)
   exact ⟨(), (zQ rfl zU), H.pick [] (by decide)⟩
  have hF := zW c152 hF
  refine zD fun K153 hK153 => ?_
  refine zC ?_
  obtain ⟨x154, e155, hF⟩ := zF hF
  refine zA rfl rfl (zM (xU (s1 := p0) (s2 := [111, 114]) rfl rfl) (congrArg Value.bool e155)) ?_
  refine zA rfl rfl (zG (v := .bool x154) rfl) ?_
  refine (zJ (zB (hK153 _ _ ?_)))
  refine yH (b := x154) rfl (fun c156 => ?_) (fun c156 => ?_)
  ·have hF := zV c156 hF
   have hR := Option.some.inj hF
   subst hR
   refine (yI (zB (And.intro ?_ ?_)))
   ·repeat' (first | with_reducible exact zS | refine zZ rfl ?_ | refine zT rfl rfl ?_)
   exact ⟨(), (zQ rfl zU), H.pick [] (by decide)⟩
  have hF := zW c156 hF
  refine zD fun K157 hK157 => ?_
  refine zC ?_
  obtain ⟨x158, e159, hF⟩ := zF hF
  refine zA rfl rfl (zM (xU (s1 := p0) (s2 := [97, 110, 100]) rfl rfl) (congrArg Value.bool e159)) ?_
  refine zA rfl rfl (zG (v := .bool x158) rfl) ?_
  refine (zJ (zB (hK157 _ _ ?_)))
  refine yH (b := x158) rfl (fun c160 => ?_) (fun c160 => ?_)
  ·have hF := zV c160 hF
   have hR := Option.some.inj hF
   subst hR
   refine (yI (zB (And.intro ?_ ?_)))
   ·repeat' (first | with_reducible exact zS | refine zZ rfl ?_ | refine zT rfl rfl ?_)
   exact ⟨(), (zQ rfl zU), H.pick [] (by decide)⟩
  have hF := zW c160 hF
  refine zD fun K161 hK161 => ?_
  refine zC ?_
  obtain ⟨x162, e163, hF⟩ := zF hF
  refine zA rfl rfl (zM (xU (s1 := p0) (s2 := [116, 114, 117, 101]) rfl rfl) (congrArg Value.bool e163)) ?_
  refine zA rfl rfl (zG (v := .bool x162) rfl) ?_
  refine (zJ (zB (hK161 _ _ ?_)))
  refine yH (b := x162) rfl (fun c164 => ?_) (fun c164 => ?_)
  ·have hF := zV c164 hF
   have hR := Option.some.inj hF
   subst hR
   refine (yI (zB (And.intro ?_ ?_)))
   ·repeat' (first | with_reducible exact zS | refine zZ rfl ?_ | refine zT rfl rfl ?_)
   exact ⟨(), (zQ rfl zU), H.pick [] (by decide)⟩
  have hF := zW c164 hF
  refine zD fun K165 hK165 => ?_
  refine zC ?_
  obtain ⟨x166, e167, hF⟩ := zF hF
  refine zA rfl rfl (zM (xU (s1 := p0) (s2 := [102, 97, 108, 115, 101]) rfl rfl) (congrArg Value.bool e167)) ?_
  refine zA rfl rfl (zG (v := .bool x166) rfl) ?_
  refine (zJ (zB (hK165 _ _ ?_)))
  refine yH (b := x166) rfl (fun c168 => ?_) (fun c168 => ?_)
  ·have hF := zV c168 hF
   have hR := Option.some.inj hF
   subst hR
   refine (yI (zB (And.intro ?_ ?_)))
   ·repeat' (first | with_reducible exact zS | refine zZ rfl ?_ | refine zT rfl rfl ?_)
   exact ⟨(), (zQ rfl zU), H.pick [] (by decide)⟩
  have hF := zW c168 hF
  refine zD fun K169 hK169 => ?_
  refine zC ?_
  obtain ⟨x170, e171, hF⟩ := zF hF
  refine zA rfl rfl (zM (xU (s1 := p0) (s2 := [115, 116, 101, 97, 100, 121]) rfl rfl) (congrArg Value.bool e171)) ?_
  refine zA rfl rfl (zG (v := .bool x170) rfl) ?_
  refine (zJ (zB (hK169 _ _ ?_)))
  refine yH (b := x170) rfl (fun c172 => ?_) (fun c172 => ?_)
  ·have hF := zV c172 hF
   have hR := Option.some.inj hF
   subst hR
   refine (yI (zB (And.intro ?_ ?_)))
   ·repeat' (first | with_reducible exact zS | refine zZ rfl ?_ | refine zT rfl rfl ?_)
   exact ⟨(), (zQ rfl zU), H.pick [] (by decide)⟩
  have hF := zW c172 hF
  refine zD fun K173 hK173 => ?_
  refine zC ?_
  obtain ⟨x174, e175, hF⟩ := zF hF
  refine zA rfl rfl (zM (xU (s1 := p0) (s2 := [110, 111, 116]) rfl rfl) (congrArg Value.bool e175)) ?_
  refine zA rfl rfl (zG (v := .bool x174) rfl) ?_
  refine (zJ (zB (hK173 _ _ ?_)))
  refine yH (b := x174) rfl (fun c176 => ?_) (fun c176 => ?_)
  ·have hF := zV c176 hF
   have hR := Option.some.inj hF
   subst hR
   refine (yI (zB (And.intro ?_ ?_)))
   ·repeat' (first | with_reducible exact zS | refine zZ rfl ?_ | refine zT rfl rfl ?_)
   exact ⟨(), (zQ rfl zU), H.pick [] (by decide)⟩
  have hF := zW c176 hF
  refine zD fun K177 hK177 => ?_
  refine zC ?_
  obtain ⟨x178, e179, hF⟩ := zF hF
  refine zA rfl rfl (zM (xU (s1 := p0) (s2 := [102, 111, 114]) rfl rfl) (congrArg Value.bool e179)) ?_
  refine zA rfl rfl (zG (v := .bool x178) rfl) ?_
  refine (zJ (zB (hK177 _ _ ?_)))
  refine yH (b := x178) rfl (fun c180 => ?_) (fun c180 => ?_)
  ·have hF := zV c180 hF
   have hR := Option.some.inj hF
   subst hR
   refine (yI (zB (And.intro ?_ ?_)))
   ·repeat' (first | with_reducible exact zS | refine zZ rfl ?_ | refine zT rfl rfl ?_)
   exact ⟨(), (zQ rfl zU), H.pick [] (by decide)⟩
  have hF := zW c180 hF
  refine zD fun K181 hK181 => ?_
  refine zC ?_
  obtain ⟨x182, e183, hF⟩ := zF hF
  refine zA rfl rfl (zM (xU (s1 := p0) (s2 := [119, 105, 116, 104, 105, 110]) rfl rfl) (congrArg Value.bool e183)) ?_
  refine zA rfl rfl (zG (v := .bool x182) rfl) ?_
  refine (zJ (zB (hK181 _ _ ?_)))
  refine yH (b := x182) rfl (fun c184 => ?_) (fun c184 => ?_)
  ·have hF := zV c184 hF
   have hR := Option.some.inj hF
   subst hR
   refine (yI (zB (And.intro ?_ ?_)))
   ·repeat' (first | with_reducible exact zS | refine zZ rfl ?_ | refine zT rfl rfl ?_)
   exact ⟨(), (zQ rfl zU), H.pick [] (by decide)⟩
  have hF := zW c184 hF
  refine zD fun K185 hK185 => ?_
  refine zC ?_
  obtain ⟨x186, e187, hF⟩ := zF hF
  refine zA rfl rfl (zM (xU (s1 := p0) (s2 := [99, 111, 117, 110, 116]) rfl rfl) (congrArg Value.bool e187)) ?_
  refine zA rfl rfl (zG (v := .bool x186) rfl) ?_
  refine (zJ (zB (hK185 _ _ ?_)))
  refine yH (b := x186) rfl (fun c188 => ?_) (fun c188 => ?_)
  ·have hF := zV c188 hF
   have hR := Option.some.inj hF
   subst hR
   refine (yI (zB (And.intro ?_ ?_)))
   ·repeat' (first | with_reducible exact zS | refine zZ rfl ?_ | refine zT rfl rfl ?_)
   exact ⟨(), (zQ rfl zU), H.pick [] (by decide)⟩
  have hF := zW c188 hF
  refine zD fun K189 hK189 => ?_
  refine zC ?_
  obtain ⟨x190, e191, hF⟩ := zF hF
  refine zA rfl rfl (zM (xU (s1 := p0) (s2 := [111, 102]) rfl rfl) (congrArg Value.bool e191)) ?_
  refine zA rfl rfl (zG (v := .bool x190) rfl) ?_
  refine (zJ (zB (hK189 _ _ ?_)))
  refine yH (b := x190) rfl (fun c192 => ?_) (fun c192 => ?_)
  ·have hF := zV c192 hF
   have hR := Option.some.inj hF
   subst hR
   refine (yI (zB (And.intro ?_ ?_)))
   ·repeat' (first | with_reducible exact zS | refine zZ rfl ?_ | refine zT rfl rfl ?_)
   exact ⟨(), (zQ rfl zU), H.pick [] (by decide)⟩
  have hF := zW c192 hF
  refine zD fun K193 hK193 => ?_
  refine zC ?_
  obtain ⟨x194, e195, hF⟩ := zF hF
  refine zA rfl rfl (zM (xU (s1 := p0) (s2 := [114, 105, 115, 101, 115]) rfl rfl) (congrArg Value.bool e195)) ?_
  refine zA rfl rfl (zG (v := .bool x194) rfl) ?_
  refine (zJ (zB (hK193 _ _ ?_)))
  refine yH (b := x194) rfl (fun c196 => ?_) (fun c196 => ?_)
  ·have hF := zV c196 hF
   have hR := Option.some.inj hF
   subst hR
   refine (yI (zB (And.intro ?_ ?_)))
   ·repeat' (first | with_reducible exact zS | refine zZ rfl ?_ | refine zT rfl rfl ?_)
   exact ⟨(), (zQ rfl zU), H.pick [] (by decide)⟩
  have hF := zW c196 hF
  refine zC ?_
  obtain ⟨x197, e198, hF⟩ := zF hF
  refine zA rfl rfl (zM (xU (s1 := p0) (s2 := [115, 105, 110, 99, 101]) rfl rfl) (congrArg Value.bool e198)) ?_
  refine zA rfl rfl (zG (v := .bool x197) rfl) ?_
  have hR := Option.some.inj hF
  subst hR
  refine (zJ (zB (And.intro ?_ ?_)))
  ·repeat' (first | with_reducible exact zS | refine zZ rfl ?_ | refine zT rfl rfl ?_)
  exact ⟨(), (zQ rfl zU), H.pick [] (by decide)⟩
 rintro _ ρ w135 H
 have hF := hK136
 refine yH (b := g134) rfl (fun c199 => ?_) (fun c199 => ?_)
 ·have hF := zV c199 hF
  refine zD fun K200 hK200 => ?_
  refine zC ?_
  refine zA rfl rfl (zG (v := .bool true) rfl) ?_
  refine (zJ (zB (hK200 _ _ ?_)))
  have hR := Option.some.inj hF
  subst hR
  refine (yG (yJ (yC (post1 (v1 := .bool true) rfl rfl ?_))))
  exact ⟨rfl, H.pick [] (by decide)⟩
 have hF := zW c199 hF
 refine (yI (yX (zB (hK70 _ _ ?_))))
 refine zD fun K201 hK201 => ?_
 refine zC ?_
 refine zA rfl rfl (zG (v := .bool false) rfl) ?_
 refine (zJ (zB (hK201 _ _ ?_)))
 have hR := Option.some.inj hF
 subst hR
 refine (yG (post1 (v1 := .bool false) rfl rfl ?_))
 exact ⟨rfl, H.pick [] (by decide)⟩
end Go.Proofs.YtnajnkghilemhaaGreatDoor.L
namespace Go.Proofs.YtnajnkghilemhaaGreatDoor.L
open Go.RowKit Go.OB Go.Lf
/- orangebox/event.isName -/
set_option maxHeartbeats 4000000 in
set_option maxRecDepth 100000 in
theorem F_event_isName_w (p0 : Str) (r : Bool) (hF : F_event_isName p0 = some r) (O S : List Nat) (w : World) (H : Hd O w w S []) :
  Calls Tryz.prog 68 ([.string (bs p0)] : List Value).toArray w fun e w' => e = .returned (.bool r) ∧ Hd O w w' S [] := by
 unfold F_event_isName at hF
 refine yD 33 Tryz.func68 rfl rfl rfl ?_
 refine zD fun K1 hK1 => ?_
 refine zC ?_
 refine zA rfl rfl (zG (v := .bool false) rfl) ?_
 refine (zJ (zB (hK1 _ _ ?_)))
 refine zD fun K32 hK32 => ?_
 obtain ⟨g58, hF, hK60⟩ := zI hF
 refine yQ [4, 5, 6, 7, 8, 9, 10, 11, 12, 13, 14, 15, 16, 17, 18, 19, 20, 21] (fun (g : Unit) => [(21, .bool g58)]) (fun g wl => Hd O w wl S []) ?_ ?_
 ·skip
  refine zC ?_
  refine zA rfl rfl (zK (v := .string (bs p0)) rfl) ?_
  obtain ⟨x61, e62, hF⟩ := zF hF
  refine zA rfl rfl (zM (Do_slen (s1 := p0) u9 rfl) (congrArg (Value.int .i64) e62)) ?_
  have H63 := H
  obtain ⟨x64, e65, hF⟩ := zI hF
  refine yA rfl rfl (zX en60 rfl) (F_event_within_w x61 1 30 _ e65 _ _ _ (H.enter [] [] (by decide) rfl)) ?_
  rintro _ w66 ⟨rfl, G67⟩
  have H := H63.step (G67.only : Only [] _ _)
  refine ⟨_, rfl, ?_⟩
  obtain ⟨x68, e69, hF⟩ := zF hF
  refine zA rfl rfl (zM (yS (p := x64) rfl) (congrArg Value.bool e69)) ?_
  refine yE (b := x68) rfl rfl rfl (fun c70 => ?_) (fun c70 => ?_)
  ·have hF := zV c70 hF
   refine zH rfl rfl ?_
   refine zH rfl rfl ?_
   refine zH rfl rfl ?_
   refine zA rfl rfl (zY (v := .bool true) rfl rfl) ?_
   refine zA rfl rfl (zK (v := .bool true) rfl) ?_
   refine zH rfl rfl ?_
   refine zH rfl rfl ?_
   refine zH rfl rfl ?_
   refine zA rfl rfl (zY (v := .bool true) rfl rfl) ?_
   refine zA rfl rfl (zK (v := .bool true) rfl) ?_
   refine zH rfl rfl ?_
   refine zH rfl rfl ?_
   refine zA rfl rfl (zY (v := .bool true) rfl rfl) ?_
   have hR := Option.some.inj hF
   subst hR
   refine (zJ (zB (And.intro ?_ ?_)))
   ·repeat' (first | with_reducible exact zS | refine zZ rfl ?_ | refine zT rfl rfl ?_)
   exact ⟨(), (zQ rfl zU), H.pick [] (by decide)⟩
  have hF := zW c70 hF
  refine zA rfl rfl (zK (v := .string (bs p0)) rfl) ?_
  obtain ⟨x71, e72, hF⟩ := zI hF
  refine zA rfl rfl (Do_sidx (s1 := p0) (q := 0) u9 rfl rfl e72) ?_
  obtain ⟨x73, e74, hF⟩ := zF hF
  refine zA rfl rfl (zM (xZ (a := x71) (b := 97) rfl rfl) (congrArg Value.bool e74)) ?_
  refine zA rfl rfl (zN (v := .bool x73) rfl rfl) ?_
  refine yE (b := x73) rfl rfl rfl (fun c75 => ?_) (fun c75 => ?_)
  ·have hF := zV c75 hF
   refine zH rfl rfl ?_
   refine zH rfl rfl ?_
   refine zH rfl rfl ?_
   refine zA rfl rfl (zY (v := .bool true) rfl rfl) ?_
   refine zA rfl rfl (zK (v := .bool true) rfl) ?_
   refine zH rfl rfl ?_
   refine zH rfl rfl ?_
   refine zA rfl rfl (zY (v := .bool true) rfl rfl) ?_
   have hR := Option.some.inj hF
   subst hR
   refine (zJ (zB (And.intro ?_ ?_)))
   ·repeat' (first | with_reducible exact zS | refine zZ rfl ?_ | refine zT rfl rfl ?_)
   exact ⟨(), (zQ rfl zU), H.pick [] (by decide)⟩
  have hF := zW c75 hF
  refine zA rfl rfl (zK (v := .string (bs p0)) rfl) ?_
  obtain ⟨x76, e77, hF⟩ := zI hF
  refine zA rfl rfl (Do_sidx (s1 := p0) (q := 0) u9 rfl rfl e77) ?_
  obtain ⟨x78, e79, hF⟩ := zF hF
  refine zA rfl rfl (zM (Do_gtr (a := x76) (b := 122) rfl rfl) (congrArg Value.bool e79)) ?_
  refine zA rfl rfl (zN (v := .bool x78) rfl rfl) ?_
  refine yE (b := x78) rfl rfl rfl (fun c80 => ?_) (fun c80 => ?_)
  ·have hF := zV c80 hF
   refine zH rfl rfl ?_
   refine zH rfl rfl ?_
   refine zA rfl rfl (zY (v := .bool true) rfl rfl) ?_
   have hR := Option.some.inj hF
   subst hR
   refine (zJ (zB (And.intro ?_ ?_)))
   ·repeat' (first | with_reducible exact zS | refine zZ rfl ?_ | refine zT rfl rfl ?_)
   exact ⟨(), (zQ rfl zU), H.pick [] (by decide)⟩
  have hF := zW c80 hF
  refine zA rfl rfl (zK (v := .string (bs p0)) rfl) ?_
  have H81 := H
  obtain ⟨x82, e83, hF⟩ := zI hF
  refine yA rfl rfl (zX en119 rfl) (F_event_isWord_w p0 _ e83 _ _ _ (H.enter [] [] (by decide) rfl)) ?_
  rintro _ w84 ⟨rfl, G85⟩
  have H := H81.step (G85.only : Only [] _ _)
  refine ⟨_, rfl, ?_⟩
  refine zA rfl rfl (zN (v := .bool x82) rfl rfl) ?_
  have hR := Option.some.inj hF
  subst hR
  refine (zJ (zB (And.intro ?_ ?_)))
  ·repeat' (first | with_reducible exact zS | refine zZ rfl ?_ | refine zT rfl rfl ?_)
  exact ⟨(), (zQ rfl zU), H.pick [] (by decide)⟩
 rintro _ ρ w59 H
 have hF := hK60
 refine yH (b := g58) rfl (fun c86 => ?_) (fun c86 => ?_)
 ·have hF := zV c86 hF
  refine zD fun K87 hK87 => ?_
  refine zC ?_
  refine zA rfl rfl (zG (v := .bool false) rfl) ?_
  refine (zJ (zB (hK87 _ _ ?_)))
  have hR := Option.some.inj hF
  subst hR
  refine (yG (yC (post1 (v1 := .bool false) rfl rfl ?_)))
  exact ⟨rfl, H.pick [] (by decide)⟩
 have hF := zW c86 hF
 refine (yI (zB (hK32 _ _ ?_)))
 obtain ⟨k169, ek170, hF⟩ := wC hF
 refine yQ [2, 3, 22, 23, 24, 25, 26, 27, 28, 29, 30, 31, 32] (fun (g : Unit) => []) (fun g wl => Hd O w wl S [] ∧ k169 () = some r) ?_ ?_
 ·skip
  refine zD fun K171 hK171 => ?_
  refine zC ?_
  refine zA rfl rfl (zK (v := .string (bs p0)) rfl) ?_
  obtain ⟨x172, e173, hF⟩ := zF hF
  refine zA rfl rfl (zM (Do_slen (s1 := p0) u9 rfl) (congrArg (Value.int .i64) e173)) ?_
  refine zA rfl rfl (zK (v := .int .i64 0) rfl) ?_
  refine (zJ (zB (hK171 _ _ ?_)))
  refine yM ?_
  unfold F_event_isName_L1 at hF
  obtain ⟨B246, n247, eB248, hF⟩ := yZ hF
  refine xN [2, 3, 24, 25, 26, 27, 28, 29, 30, 31, 32] (fun (g : Nat × Int) => [(24, .int .i64 g.2)]) (fun g wl => Hd O w wl S [] ∧ loopN B246 g.1 g.2 = some r) (fun g => g.1) (n247, 0) (zQ rfl zU) ⟨H.pick [] (by decide), hF⟩ ?_
  clear H hF
  rintro ⟨n247, g245⟩ ρ w250 ⟨H, hF⟩
  obtain ⟨n251, rfl, hF⟩ := xH hF
  have hF := xG eB248 hF
  refine zD fun K252 hK252 => ?_
  refine zC ?_
  obtain ⟨x253, e254, hF⟩ := zF hF
  refine zA rfl rfl (zM (xZ (a := g245) (b := x172) rfl rfl) (congrArg Value.bool e254)) ?_
  refine (zJ (zB (hK252 _ _ ?_)))
  refine zD fun K256 hK256 => ?_
  refine yH (b := x253) rfl (fun c257 => ?_) (fun c257 => ?_)
  ·have hF := zV c257 hF
   refine (yI (zB (hK256 _ _ ?_)))
   refine zD fun K271 hK271 => ?_
   refine yM ?_
   refine zD fun K272 hK272 => ?_
   refine zC ?_
   refine zA rfl rfl (zK (v := .int .i64 g245) rfl) ?_
   refine zA rfl rfl (zG (v := .int .i64 g245) rfl) ?_
   refine (zJ (zB (hK272 _ _ ?_)))
   refine zD fun K273 hK273 => ?_
   refine zC ?_
   refine zA rfl rfl (zK (v := .string (bs p0)) rfl) ?_
   refine zA rfl rfl (zK (v := .int .i64 g245) rfl) ?_
   obtain ⟨x274, e275, hF⟩ := zI hF
   refine zA rfl rfl (Do_sidx (s1 := p0) (q := g245) u9 rfl rfl e275) ?_
   have H276 := H
   obtain ⟨x277, e278, hF⟩ := zI hF
   refine yA rfl rfl (zX en120 rfl) (F_event_nameByte_w x274 _ e278 _ _ _ (H.enter [] [] (by decide) rfl)) ?_
   rintro _ w279 ⟨rfl, G280⟩
   have H := H276.step (G280.only : Only [] _ _)
   refine ⟨_, rfl, ?_⟩
   obtain ⟨x281, e282, hF⟩ := zF hF
   refine zA rfl rfl (zM (yS (p := x277) rfl) (congrArg Value.bool e282)) ?_
   refine (zJ (zB (hK273 _ _ ?_)))
   refine yH (b := x281) rfl (fun c283 => ?_) (fun c283 => ?_)
   ·have hF := zV c283 hF
    refine zD fun K284 hK284 => ?_
    refine zC ?_
    refine zA rfl rfl (zG (v := .bool false) rfl) ?_
    refine (zJ (zB (hK284 _ _ ?_)))
    have hR := Option.some.inj hF
    subst hR
    refine (yG (yJ (yC (yC (yJ (yC (post1 (v1 := .bool false) rfl rfl ?_)))))))
    exact ⟨rfl, H.pick [] (by decide)⟩
   have hF := zW c283 hF
   refine (yI (yX (zB (hK271 _ _ ?_))))
   refine zC ?_
   obtain ⟨x285, e286, hF⟩ := zF hF
   refine zA rfl rfl (wE (a := g245) (b := 1) rfl rfl e286) ?_
   refine zA rfl rfl (zK (v := .int .i64 x285) rfl) ?_
   refine (zJ (zB (And.intro ?_ ?_)))
   ·repeat' (first | with_reducible exact zS | refine zZ rfl ?_ | refine zT rfl rfl ?_)
   exact ⟨(n251, x285), (zQ rfl zU), ⟨H.pick [] (by decide), hF⟩, Nat.lt_succ_self _⟩
  have hF := zW c257 hF
  refine (xW (yU (yU (xE (zB (And.intro ?_ ?_))))))
  ·repeat' (first | with_reducible exact zS | refine zZ rfl ?_ | refine zT rfl rfl ?_)
  exact ⟨(), zU, ⟨H.pick [] (by decide), hF⟩⟩
 rintro _ ρ w168 ⟨H, hF⟩
 have hF := wJ ek170 hF
 refine zD fun K287 hK287 => ?_
 refine zC ?_
 refine zA rfl rfl (zG (v := .bool true) rfl) ?_
 refine (zJ (zB (hK287 _ _ ?_)))
 have hR := Option.some.inj hF
 subst hR
 refine (yG (post1 (v1 := .bool true) rfl rfl ?_))
 exact ⟨rfl, H.pick [] (by decide)⟩
end Go.Proofs.YtnajnkghilemhaaGreatDoor.L
namespace Go.Proofs.YtnajnkghilemhaaGreatDoor.L
open Go.RowKit Go.OB Go.Lf
/- orangebox/event.CheckTracks$1 -/
set_option maxHeartbeats 4000000 in
theorem F_event_CheckTracks_1_w (p0 : Track) (c0 : Track) (v1 : Value) (b3 : Nat) (v4 : Value) (r : Bool) (hF : F_event_CheckTracks_1 p0 c0 = some r) (O S : List Nat) (w : World) (H : Hd O w w S [.blk b3 [.string (bs c0.Name), .int .i64 c0.Series.Den, v4, .int .i64 c0.Long] 37, .fz (.sl rSample v1 p0.Series.Samples), .fz (.sl rSample v4 c0.Series.Samples)]) :
  Calls Tryz.prog 70 ([.agg [.string (bs p0.Name), .int .i64 p0.Series.Den, v1, .int .i64 p0.Long].toArray, .pointer (some ⟨b3, 0, none⟩)] : List Value).toArray w fun e w' => e = .returned (.bool r) ∧ Hd O w w' S [.blk b3 [.string (bs c0.Name), .int .i64 c0.Series.Den, v4, .int .i64 c0.Long] 37] := by
 unfold F_event_CheckTracks_1 at hF
 refine yD 9 Tryz.func70 rfl rfl rfl ?_
 refine zD fun K7 hK7 => ?_
 refine zC ?_
 refine yY rfl rfl (Lx_box (cs := [.string (bs p0.Name), .int .i64 p0.Series.Den, v1, .int .i64 p0.Long]) rfl H) ?_
 rintro _ w10 ⟨b8, rfl, H⟩
 refine zA rfl rfl (zG (v := .bool false) rfl) ?_
 refine (zJ (zB (hK7 _ _ ?_)))
 refine zD fun K11 hK11 => ?_
 refine zC ?_
 refine zA rfl rfl (fa37_0 rfl) ?_
 refine zA rfl rfl (zL one9 rfl (Cells.get (Blk.cells (H.item (i := 3) rfl)) (i := 0) rfl)) ?_
 refine zA rfl rfl (fa37_0 rfl) ?_
 refine zA rfl rfl (zL one9 rfl (Cells.get (Blk.cells (H.item (i := 0) rfl)) (i := 0) rfl)) ?_
 obtain ⟨x12, e13, hF⟩ := zF hF
 refine zA rfl rfl (zM (xU (s1 := p0.Name) (s2 := c0.Name) rfl rfl) (congrArg Value.bool e13)) ?_
 refine zA rfl rfl (zG (v := .bool x12) rfl) ?_
 refine (zJ (zB (hK11 _ _ ?_)))
 have hR := Option.some.inj hF
 subst hR
 refine (yG (post1 (v1 := .bool x12) rfl rfl ?_))
 exact ⟨rfl, H.pick [0] (by decide)⟩
end Go.Proofs.YtnajnkghilemhaaGreatDoor.L
namespace Go.Proofs.YtnajnkghilemhaaGreatDoor.L
open Go.RowKit Go.OB Go.Lf
/- slices.IndexFunc[[]orangebox/api.Track,orangebox/api.Track]@orangebox/event.CheckTracks$1 -/
set_option maxHeartbeats 4000000 in
theorem F_slices_IndexFunc___api_Track_api_Track__event_CheckTracks_1_w (p0 : List Track) (p1c0 : Track) (v1 : Value) (b3 : Nat) (v4 : Value) (r : Int) (hF : F_slices_IndexFunc___api_Track_api_Track__event_CheckTracks_1 p0 p1c0 = some r) (O S : List Nat) (w : World) (H : Hd O w w S [.blk b3 [.string (bs p1c0.Name), .int .i64 p1c0.Series.Den, v4, .int .i64 p1c0.Long] 37, .fz (.sl rTrack v1 p0), .fz (.sl rSample v4 p1c0.Series.Samples)]) :
  Calls Tryz.prog 121 ([v1, .func (.func 70) #[] #[.pointer (some ⟨b3, 0, none⟩)]] : List Value).toArray w fun e w' => e = .returned (.int .i64 r) ∧ Hd O w w' S [.blk b3 [.string (bs p1c0.Name), .int .i64 p1c0.Series.Den, v4, .int .i64 p1c0.Long] 37] := by
 unfold F_slices_IndexFunc___api_Track_api_Track__event_CheckTracks_1 at hF
 refine yD 19 Tryz.func121 rfl rfl rfl ?_
 refine zD fun K7 hK7 => ?_
 refine zC ?_
 refine zA rfl rfl (zG (v := .int .i64 0) rfl) ?_
 refine (zJ (zB (hK7 _ _ ?_)))
 obtain ⟨k132, ek133, hF⟩ := wC hF
 refine yQ [4, 5, 6, 7, 8, 9, 10, 11, 12, 13, 14, 15, 16, 17, 18] (fun (g : Unit) => []) (fun g wl => Hd O w wl S [.blk b3 [.string (bs p1c0.Name), .int .i64 p1c0.Series.Den, v4, .int .i64 p1c0.Long] 37, .fz (.sl rSample v4 p1c0.Series.Samples)] ∧ k132 () = some r) ?_ ?_
 ·skip
  refine zD fun K134 hK134 => ?_
  refine zC ?_
  refine zA rfl rfl (zK (v := v1) rfl) ?_
  obtain ⟨x135, e136, hF⟩ := zF hF
  obtain ⟨a137, c138, q139⟩ := SlF.len ((H.item (i := 1) rfl))
  refine zA rfl rfl (zM (xA u27 q139) (congrArg (Value.int .i64) e136)) ?_
  refine zA rfl rfl (zK (v := .int .i64 0) rfl) ?_
  refine (zJ (zB (hK134 _ _ ?_)))
  refine yM ?_
  unfold F_slices_IndexFunc___api_Track_api_Track__event_CheckTracks_1_L1 at hF
  obtain ⟨B252, n253, eB254, hF⟩ := yZ hF
  refine xN [4, 5, 8, 9, 10, 11, 12, 13, 14, 15, 16, 17, 18] (fun (g : Nat × Int) => [(8, .int .i64 g.2)]) (fun g wl => Hd O w wl S [.blk b3 [.string (bs p1c0.Name), .int .i64 p1c0.Series.Den, v4, .int .i64 p1c0.Long] 37, .fz (.sl rSample v4 p1c0.Series.Samples), .fz (.sl rTrack v1 p0)] ∧ loopN B252 g.1 g.2 = some r) (fun g => g.1) (n253, 0) (zQ rfl zU) ⟨H.pick [0, 2, 1] (by decide), hF⟩ ?_
  clear H hF
  rintro ⟨n253, g251⟩ ρ w256 ⟨H, hF⟩
  obtain ⟨n257, rfl, hF⟩ := xH hF
  have hF := xG eB254 hF
  refine zD fun K258 hK258 => ?_
  refine zC ?_
  obtain ⟨x259, e260, hF⟩ := zF hF
  refine zA rfl rfl (zM (xZ (a := g251) (b := x135) rfl rfl) (congrArg Value.bool e260)) ?_
  refine (zJ (zB (hK258 _ _ ?_)))
  refine zD fun K262 hK262 => ?_
  refine yH (b := x259) rfl (fun c263 => ?_) (fun c263 => ?_)
  ·have hF := zV c263 hF
   refine (yI (zB (hK262 _ _ ?_)))
   refine zD fun K287 hK287 => ?_
   refine yM ?_
   refine zD fun K288 hK288 => ?_
   refine zC ?_
   refine zA rfl rfl (zK (v := .int .i64 g251) rfl) ?_
   refine zA rfl rfl (zG (v := .int .i64 g251) rfl) ?_
   refine (zJ (zB (hK288 _ _ ?_)))
   refine zD fun K289 hK289 => ?_
   refine zC ?_
   refine zA rfl rfl (zK (v := .func (.func 70) #[] #[.pointer (some ⟨b3, 0, none⟩)]) rfl) ?_
   refine zA rfl rfl (zK (v := v1) rfl) ?_
   refine zA rfl rfl (zK (v := .int .i64 g251) rfl) ?_
   obtain ⟨x290, e291, hF⟩ := zI hF
   obtain ⟨b292, o293, c294, cs295, q296, h299, h297, h298, h300⟩ := rd_at (H.item (i := 2) rfl) e291
   obtain ⟨v301, rfl, h302⟩ := rTrack_open h299
   have H := H.fzs [.at b292 (o293 + g251.toNat * 4) _, .sl rSample v301 x290.Series.Samples] ⟨⟨h297, h298, h300⟩, h302, trivial⟩
   refine zA rfl rfl (xY u27 sz37 q296 rfl (yP e291).1 (yP e291).2.1 rfl rfl) ?_
   refine zA rfl rfl (zM (yT (cs := [.string (bs x290.Name), .int .i64 x290.Series.Den, v301, .int .i64 x290.Long]) agg37 rfl sz37 rfl (H.item (i := 3) rfl).2.2) rfl) ?_
   obtain ⟨x305, e306, hF⟩ := zI hF
   refine yA rfl rfl (wH en70 rfl rfl) (F_event_CheckTracks_1_w x290 p1c0 v301 b3 v4 _ e306 _ _ _ (H.enter [0] [4, 1] (by decide) rfl)) ?_
   rintro _ w307 ⟨rfl, G308⟩
   have H : Hd O _ w307 _ [.fz (.sl rSample v4 p1c0.Series.Samples), .fz (.sl rTrack v1 p0), .fz (.at b292 (o293 + g251.toNat * 4) [.string (bs x290.Name), .int .i64 x290.Series.Den, v301, .int .i64 x290.Long]), .fz (.sl rSample v301 x290.Series.Samples), .blk b3 [.string (bs p1c0.Name), .int .i64 p1c0.Series.Den, v4, .int .i64 p1c0.Long] 37] := H.back [0] [4, 1] rfl G308
   refine ⟨_, rfl, ?_⟩
   refine (zJ (zB (hK289 _ _ ?_)))
   refine yH (b := x305) rfl (fun c309 => ?_) (fun c309 => ?_)
   ·have hF := zV c309 hF
    refine zD fun K310 hK310 => ?_
    refine zC ?_
    refine zA rfl rfl (zK (v := .int .i64 g251) rfl) ?_
    refine zA rfl rfl (zG (v := .int .i64 g251) rfl) ?_
    refine (zJ (zB (hK310 _ _ ?_)))
    have hR := Option.some.inj hF
    subst hR
    refine (yG (yJ (yC (yC (yJ (yC (post1 (v1 := .int .i64 g251) rfl rfl ?_)))))))
    exact ⟨rfl, H.pick [4] (by decide)⟩
   have hF := zW c309 hF
   refine (yI (yX (zB (hK287 _ _ ?_))))
   refine zC ?_
   obtain ⟨x311, e312, hF⟩ := zF hF
   refine zA rfl rfl (wE (a := g251) (b := 1) rfl rfl e312) ?_
   refine zA rfl rfl (zK (v := .int .i64 x311) rfl) ?_
   refine (zJ (zB (And.intro ?_ ?_)))
   ·repeat' (first | with_reducible exact zS | refine zZ rfl ?_ | refine zT rfl rfl ?_)
   exact ⟨(n257, x311), (zQ rfl zU), ⟨H.pick [4, 0, 1] (by decide), hF⟩, Nat.lt_succ_self _⟩
  have hF := zW c263 hF
  refine (xW (yU (yU (xE (zB (And.intro ?_ ?_))))))
  ·repeat' (first | with_reducible exact zS | refine zZ rfl ?_ | refine zT rfl rfl ?_)
  exact ⟨(), zU, ⟨H.pick [0, 1] (by decide), hF⟩⟩
 rintro _ ρ w131 ⟨H, hF⟩
 have hF := wJ ek133 hF
 refine zD fun K313 hK313 => ?_
 refine zC ?_
 refine zA rfl rfl (zG (v := .int .i64 (-1)) rfl) ?_
 refine (zJ (zB (hK313 _ _ ?_)))
 have hR := Option.some.inj hF
 subst hR
 refine (yG (post1 (v1 := .int .i64 (-1)) rfl rfl ?_))
 exact ⟨rfl, H.pick [0] (by decide)⟩
end Go.Proofs.YtnajnkghilemhaaGreatDoor.L
namespace Go.Proofs.YtnajnkghilemhaaGreatDoor.L
open Go.RowKit Go.OB Go.Lf
/- slices.ContainsFunc[[]orangebox/api.Track,orangebox/api.Track]@orangebox/event.CheckTracks$1 -/
set_option maxHeartbeats 4000000 in
theorem F_slices_ContainsFunc___api_Track_api_Track__event_CheckTracks_1_w (p0 : List Track) (p1c0 : Track) (v1 : Value) (b3 : Nat) (v4 : Value) (r : Bool) (hF : F_slices_ContainsFunc___api_Track_api_Track__event_CheckTracks_1 p0 p1c0 = some r) (O S : List Nat) (w : World) (H : Hd O w w S [.blk b3 [.string (bs p1c0.Name), .int .i64 p1c0.Series.Den, v4, .int .i64 p1c0.Long] 37, .fz (.sl rTrack v1 p0), .fz (.sl rSample v4 p1c0.Series.Samples)]) :
  Calls Tryz.prog 69 ([v1, .func (.func 70) #[] #[.pointer (some ⟨b3, 0, none⟩)]] : List Value).toArray w fun e w' => e = .returned (.bool r) ∧ Hd O w w' S [.blk b3 [.string (bs p1c0.Name), .int .i64 p1c0.Series.Den, v4, .int .i64 p1c0.Long] 37] := by
 unfold F_slices_ContainsFunc___api_Track_api_Track__event_CheckTracks_1 at hF
 refine yD 9 Tryz.func69 rfl rfl rfl ?_
 refine zD fun K7 hK7 => ?_
 refine zC ?_
 refine zA rfl rfl (zG (v := .bool false) rfl) ?_
 refine (zJ (zB (hK7 _ _ ?_)))
 refine zD fun K8 hK8 => ?_
 refine zC ?_
 refine zA rfl rfl (zK (v := v1) rfl) ?_
 refine zA rfl rfl (zK (v := .func (.func 70) #[] #[.pointer (some ⟨b3, 0, none⟩)]) rfl) ?_
 obtain ⟨x9, e10, hF⟩ := zI hF
 refine yA rfl rfl (zX en121 rfl) (F_slices_IndexFunc___api_Track_api_Track__event_CheckTracks_1_w p0 p1c0 v1 b3 v4 _ e10 _ _ _ (H.enter [0] [1, 2] (by decide) rfl)) ?_
 rintro _ w11 ⟨rfl, G12⟩
 have H : Hd O _ w11 _ [.fz (.sl rTrack v1 p0), .fz (.sl rSample v4 p1c0.Series.Samples), .blk b3 [.string (bs p1c0.Name), .int .i64 p1c0.Series.Den, v4, .int .i64 p1c0.Long] 37] := H.back [0] [1, 2] rfl G12
 refine ⟨_, rfl, ?_⟩
 obtain ⟨x13, e14, hF⟩ := zF hF
 refine zA rfl rfl (zM (Do_geq (a := x9) (b := 0) rfl rfl) (congrArg Value.bool e14)) ?_
 refine zA rfl rfl (zG (v := .bool x13) rfl) ?_
 refine (zJ (zB (hK8 _ _ ?_)))
 have hR := Option.some.inj hF
 subst hR
 refine (yG (post1 (v1 := .bool x13) rfl rfl ?_))
 exact ⟨rfl, H.pick [2] (by decide)⟩
end Go.Proofs.YtnajnkghilemhaaGreatDoor.L
namespace Go.Proofs.YtnajnkghilemhaaGreatDoor.L
open Go.RowKit Go.OB Go.Lf
/- orangebox/series.within -/
set_option maxHeartbeats 4000000 in
theorem F_series_within_w (p0 : Int) (p1 : Int) (p2 : Int) (r : Bool) (hF : F_series_within p0 p1 p2 = some r) (O S : List Nat) (w : World) (H : Hd O w w S []) :
  Calls Tryz.prog 159 ([.int .i64 p0, .int .i64 p1, .int .i64 p2] : List Value).toArray w fun e w' => e = .returned (.bool r) ∧ Hd O w w' S [] := by
 unfold F_series_within at hF
 refine yD 15 Tryz.func159 rfl rfl rfl ?_
 refine zD fun K1 hK1 => ?_
 refine zC ?_
 refine zA rfl rfl (zG (v := .bool false) rfl) ?_
 refine (zJ (zB (hK1 _ _ ?_)))
 obtain ⟨g7, hF, hK9⟩ := zI hF
 refine yQ [6, 7, 8, 9, 10, 11, 12, 13, 14] (fun (g : Unit) => [(6, .bool g7)]) (fun g wl => Hd O w wl S []) ?_ ?_
 ·skip
  refine zC ?_
  refine zA rfl rfl (zK (v := .int .i64 p0) rfl) ?_
  refine zA rfl rfl (zK (v := .int .i64 p1) rfl) ?_
  obtain ⟨x10, e11, hF⟩ := zF hF
  refine zA rfl rfl (zM (Do_geq (a := p0) (b := p1) rfl rfl) (congrArg Value.bool e11)) ?_
  refine yE (b := x10) rfl rfl rfl (fun c12 => ?_) (fun c12 => ?_)
  ·have hF := zV c12 hF
   refine zA rfl rfl (zK (v := .int .i64 p0) rfl) ?_
   refine zA rfl rfl (zK (v := .int .i64 p2) rfl) ?_
   obtain ⟨x13, e14, hF⟩ := zF hF
   refine zA rfl rfl (zM (Do_leq (a := p0) (b := p2) rfl rfl) (congrArg Value.bool e14)) ?_
   refine zA rfl rfl (zY (v := .bool x13) rfl rfl) ?_
   refine zA rfl rfl (zG (v := .bool x13) rfl) ?_
   have hR := Option.some.inj hF
   subst hR
   refine (zJ (zB (And.intro ?_ ?_)))
   ·repeat' (first | with_reducible exact zS | refine zZ rfl ?_ | refine zT rfl rfl ?_)
   exact ⟨(), (zQ rfl zU), H.pick [] (by decide)⟩
  have hF := zW c12 hF
  refine zH rfl rfl ?_
  refine zH rfl rfl ?_
  refine zH rfl rfl ?_
  refine zA rfl rfl (zN (v := .bool false) rfl rfl) ?_
  refine zA rfl rfl (zG (v := .bool false) rfl) ?_
  have hR := Option.some.inj hF
  subst hR
  refine (zJ (zB (And.intro ?_ ?_)))
  ·repeat' (first | with_reducible exact zS | refine zZ rfl ?_ | refine zT rfl rfl ?_)
  exact ⟨(), (zQ rfl zU), H.pick [] (by decide)⟩
 rintro _ ρ w8 H
 have hF := hK9
 have hR := Option.some.inj hF
 subst hR
 refine (yG (post1 (v1 := .bool g7) rfl rfl ?_))
 exact ⟨rfl, H.pick [] (by decide)⟩
end Go.Proofs.YtnajnkghilemhaaGreatDoor.L
