/- Walks: what each function computes, for every argument; no condition but those that stand in the statements. -/
import Derived.Test.YtbjhondbheijiaaGreatRows
import Derived.Test.YtbjhondbheijiaaGreatZP
import Derived.Test.YtbjhondbheijiaaGreatXZ2
namespace Go.Proofs.YtbjhondbheijiaaGreat.L
open Go.RowKit Go.OB Go.Lf
theorem u3 : Tryz.prog.underlying 3 = some (.int .i64) := Tryz.underlying3
theorem u4 : Tryz.prog.underlying 4 = some .bool := Tryz.underlying4
theorem u9 : Tryz.prog.underlying 9 = some .string := Tryz.underlying9
theorem u22 : Tryz.prog.underlying 22 = some (.slice 66) := Tryz.underlying22
theorem u23 : Tryz.prog.underlying 23 = some (.slice 9) := Tryz.underlying23
theorem u24 : Tryz.prog.underlying 24 = some (.slice 91) := Tryz.underlying24
theorem u36 : Tryz.prog.underlying 36 = some (.slice 44) := Tryz.underlying36
theorem u39 : Tryz.prog.underlying 39 = some (.slice 22) := Tryz.underlying39
theorem u42 : Tryz.prog.underlying 42 = some (.slice 3) := Tryz.underlying42
theorem u52 : Tryz.prog.underlying 52 = some (.int .u64) := Tryz.underlying52
theorem u60 : Tryz.prog.underlying 60 = some (.slice 57) := Tryz.underlying60
theorem u64 : Tryz.prog.underlying 64 = some (.slice 74) := Tryz.underlying64
theorem u70 : Tryz.prog.underlying 70 = some (.slice 97) := Tryz.underlying70
theorem u75 : Tryz.prog.underlying 75 = some (.pointer 74) := Tryz.underlying75
theorem sz3 : Sz Tryz.prog 3 1 := by unfold Sz; kernel_rfl
theorem sz9 : Sz Tryz.prog 9 1 := by unfold Sz; kernel_rfl
theorem sz22 : Sz Tryz.prog 22 1 := by unfold Sz; kernel_rfl
theorem sz26 : Sz Tryz.prog 26 5 := by unfold Sz; kernel_rfl
theorem sz31 : Sz Tryz.prog 31 2 := by unfold Sz; kernel_rfl
theorem sz42 : Sz Tryz.prog 42 1 := by unfold Sz; kernel_rfl
theorem sz44 : Sz Tryz.prog 44 3 := by unfold Sz; kernel_rfl
theorem sz54 : Sz Tryz.prog 54 3 := by unfold Sz; kernel_rfl
theorem sz57 : Sz Tryz.prog 57 4 := by unfold Sz; kernel_rfl
theorem sz64 : Sz Tryz.prog 64 1 := by unfold Sz; kernel_rfl
theorem sz66 : Sz Tryz.prog 66 6 := by unfold Sz; kernel_rfl
theorem sz70 : Sz Tryz.prog 70 1 := by unfold Sz; kernel_rfl
theorem sz72 : Sz Tryz.prog 72 2 := by unfold Sz; kernel_rfl
theorem sz74 : Sz Tryz.prog 74 4 := by unfold Sz; kernel_rfl
theorem sz91 : Sz Tryz.prog 91 2 := by unfold Sz; kernel_rfl
theorem sz97 : Sz Tryz.prog 97 3 := by unfold Sz; kernel_rfl
theorem one3 : OneC Tryz.prog 3 := by unfold OneC; kernel_rfl
theorem one4 : OneC Tryz.prog 4 := by unfold OneC; kernel_rfl
theorem one9 : OneC Tryz.prog 9 := by unfold OneC; kernel_rfl
theorem one22 : OneC Tryz.prog 22 := by unfold OneC; kernel_rfl
theorem one23 : OneC Tryz.prog 23 := by unfold OneC; kernel_rfl
theorem one24 : OneC Tryz.prog 24 := by unfold OneC; kernel_rfl
theorem one42 : OneC Tryz.prog 42 := by unfold OneC; kernel_rfl
theorem one52 : OneC Tryz.prog 52 := by unfold OneC; kernel_rfl
theorem one64 : OneC Tryz.prog 64 := by unfold OneC; kernel_rfl
theorem one70 : OneC Tryz.prog 70 := by unfold OneC; kernel_rfl
theorem agg26 : Agg Tryz.prog 26 := by unfold Agg; kernel_rfl
theorem agg31 : Agg Tryz.prog 31 := by unfold Agg; kernel_rfl
theorem agg44 : Agg Tryz.prog 44 := by unfold Agg; kernel_rfl
theorem agg54 : Agg Tryz.prog 54 := by unfold Agg; kernel_rfl
theorem agg57 : Agg Tryz.prog 57 := by unfold Agg; kernel_rfl
theorem agg66 : Agg Tryz.prog 66 := by unfold Agg; kernel_rfl
theorem agg72 : Agg Tryz.prog 72 := by unfold Agg; kernel_rfl
theorem agg74 : Agg Tryz.prog 74 := by unfold Agg; kernel_rfl
theorem agg91 : Agg Tryz.prog 91 := by unfold Agg; kernel_rfl
theorem agg97 : Agg Tryz.prog 97 := by unfold Agg; kernel_rfl
theorem zero31 : Go.OB.Zero Tryz.prog 31 ([.int .i64 0, .int .i64 0]) := by unfold Go.OB.Zero; kernel_rfl
theorem zero44 : Go.OB.Zero Tryz.prog 44 ([.slice none 0 0, .slice none 0 0, .int .i64 0]) := by unfold Go.OB.Zero; kernel_rfl
theorem zero54 : Go.OB.Zero Tryz.prog 54 ([.bool false, .int .u64 0, .int .u64 0]) := by unfold Go.OB.Zero; kernel_rfl
theorem zero57 : Go.OB.Zero Tryz.prog 57 ([.string (bs []), .bool false, .int .i64 0, .slice none 0 0]) := by unfold Go.OB.Zero; kernel_rfl
theorem zero66 : Go.OB.Zero Tryz.prog 66 ([.string (bs []), .string (bs []), .int .i64 0, .int .i64 0, .int .i64 0, .slice none 0 0]) := by unfold Go.OB.Zero; kernel_rfl
theorem zero72 : Go.OB.Zero Tryz.prog 72 ([.int .i64 0, .slice none 0 0]) := by unfold Go.OB.Zero; kernel_rfl
theorem zero74 : Go.OB.Zero Tryz.prog 74 ([.string (bs []), .int .i64 0, .slice none 0 0, .int .i64 0]) := by unfold Go.OB.Zero; kernel_rfl
theorem zero91 : Go.OB.Zero Tryz.prog 91 ([.string (bs []), .int .i64 0]) := by unfold Go.OB.Zero; kernel_rfl
theorem zero97 : Go.OB.Zero Tryz.prog 97 ([.int .i64 0, .int .i64 0, .int .i64 0]) := by unfold Go.OB.Zero; kernel_rfl
theorem el3 : El Tryz.prog 3 1 8 ([.int .i64 0]) := ⟨by kernel_rfl, by kernel_rfl, by kernel_rfl, by decide, by decide⟩
theorem el9 : El Tryz.prog 9 1 16 ([.string (bs [])]) := ⟨by kernel_rfl, by kernel_rfl, by kernel_rfl, by decide, by decide⟩
theorem el22 : El Tryz.prog 22 1 24 ([.slice none 0 0]) := ⟨by kernel_rfl, by kernel_rfl, by kernel_rfl, by decide, by decide⟩
theorem el44 : El Tryz.prog 44 3 56 ([.slice none 0 0, .slice none 0 0, .int .i64 0]) := ⟨by kernel_rfl, by kernel_rfl, by kernel_rfl, by decide, by decide⟩
theorem el57 : El Tryz.prog 57 4 56 ([.string (bs []), .bool false, .int .i64 0, .slice none 0 0]) := ⟨by kernel_rfl, by kernel_rfl, by kernel_rfl, by decide, by decide⟩
theorem el74 : El Tryz.prog 74 4 56 ([.string (bs []), .int .i64 0, .slice none 0 0, .int .i64 0]) := ⟨by kernel_rfl, by kernel_rfl, by kernel_rfl, by decide, by decide⟩
theorem el97 : El Tryz.prog 97 3 24 ([.int .i64 0, .int .i64 0, .int .i64 0]) := ⟨by kernel_rfl, by kernel_rfl, by kernel_rfl, by decide, by decide⟩
theorem bz31 : Tryz.prog.built 31 [] = some ([.int .i64 0, .int .i64 0]).toArray := by kernel_rfl
theorem bz57 : Tryz.prog.built 57 [] = some ([.string (bs []), .bool false, .int .i64 0, .slice none 0 0]).toArray := by kernel_rfl
theorem bt31_0_1 (a0 : Int) (a1 : Int) : Tryz.prog.built 31 [(0, .int .i64 a0), (1, .int .i64 a1)] = some [.int .i64 a0, .int .i64 a1].toArray := by kernel_rfl
theorem bt31_1 (a0 : Int) : Tryz.prog.built 31 [(1, .int .i64 a0)] = some [.int .i64 0, .int .i64 a0].toArray := by kernel_rfl
theorem bt54_0_1_2 (a0 : Bool) (a1 : Int) (a2 : Int) : Tryz.prog.built 54 [(0, .bool a0), (1, .int .u64 a1), (2, .int .u64 a2)] = some [.bool a0, .int .u64 a1, .int .u64 a2].toArray := by kernel_rfl
theorem bt57_0_2_3 (a0 : Str) (a1 : Int) (a2a : Option Addr) (a2n a2c : Nat) : Tryz.prog.built 57 [(0, .string (bs a0)), (2, .int .i64 a1), (3, .slice a2a a2n a2c)] = some [.string (bs a0), .bool false, .int .i64 a1, .slice a2a a2n a2c].toArray := by kernel_rfl
theorem bt72_0 (a0 : Int) : Tryz.prog.built 72 [(0, .int .i64 a0)] = some [.int .i64 a0, .slice none 0 0].toArray := by kernel_rfl
theorem fa26_0 {ρ : Env} {w : World} {d : Option Tmp} {x : Operand} {ty : TypeId} {pos : String} {af : Array Edge} {g : Option (Nat × Bool)} {b o : Nat} (hx : ev ρ x = .pointer (some ⟨b, o, none⟩)) : Do Tryz.prog ⟨d, .fieldAddr 26 x 0, ty, pos, af, g⟩ ρ w (.pointer (some ⟨b, o + 0, none⟩)) w := Do_fieldAddrC (n := 1) (m := 0) (by kernel_rfl) (by decide) hx
theorem fa26_1 {ρ : Env} {w : World} {d : Option Tmp} {x : Operand} {ty : TypeId} {pos : String} {af : Array Edge} {g : Option (Nat × Bool)} {b o : Nat} (hx : ev ρ x = .pointer (some ⟨b, o, none⟩)) : Do Tryz.prog ⟨d, .fieldAddr 26 x 1, ty, pos, af, g⟩ ρ w (.pointer (some ⟨b, o + 1, none⟩)) w := Do_fieldAddrC (n := 1) (m := 1) (by kernel_rfl) (by decide) hx
theorem fa26_2 {ρ : Env} {w : World} {d : Option Tmp} {x : Operand} {ty : TypeId} {pos : String} {af : Array Edge} {g : Option (Nat × Bool)} {b o : Nat} (hx : ev ρ x = .pointer (some ⟨b, o, none⟩)) : Do Tryz.prog ⟨d, .fieldAddr 26 x 2, ty, pos, af, g⟩ ρ w (.pointer (some ⟨b, o + 2, none⟩)) w := Do_fieldAddrC (n := 1) (m := 2) (by kernel_rfl) (by decide) hx
theorem fa26_3 {ρ : Env} {w : World} {d : Option Tmp} {x : Operand} {ty : TypeId} {pos : String} {af : Array Edge} {g : Option (Nat × Bool)} {b o : Nat} (hx : ev ρ x = .pointer (some ⟨b, o, none⟩)) : Do Tryz.prog ⟨d, .fieldAddr 26 x 3, ty, pos, af, g⟩ ρ w (.pointer (some ⟨b, o + 3, none⟩)) w := Do_fieldAddrC (n := 1) (m := 3) (by kernel_rfl) (by decide) hx
theorem fa26_4 {ρ : Env} {w : World} {d : Option Tmp} {x : Operand} {ty : TypeId} {pos : String} {af : Array Edge} {g : Option (Nat × Bool)} {b o : Nat} (hx : ev ρ x = .pointer (some ⟨b, o, none⟩)) : Do Tryz.prog ⟨d, .fieldAddr 26 x 4, ty, pos, af, g⟩ ρ w (.pointer (some ⟨b, o + 4, none⟩)) w := Do_fieldAddrC (n := 1) (m := 4) (by kernel_rfl) (by decide) hx
theorem fa44_0 {ρ : Env} {w : World} {d : Option Tmp} {x : Operand} {ty : TypeId} {pos : String} {af : Array Edge} {g : Option (Nat × Bool)} {b o : Nat} (hx : ev ρ x = .pointer (some ⟨b, o, none⟩)) : Do Tryz.prog ⟨d, .fieldAddr 44 x 0, ty, pos, af, g⟩ ρ w (.pointer (some ⟨b, o + 0, none⟩)) w := Do_fieldAddrC (n := 1) (m := 0) (by kernel_rfl) (by decide) hx
theorem fa44_1 {ρ : Env} {w : World} {d : Option Tmp} {x : Operand} {ty : TypeId} {pos : String} {af : Array Edge} {g : Option (Nat × Bool)} {b o : Nat} (hx : ev ρ x = .pointer (some ⟨b, o, none⟩)) : Do Tryz.prog ⟨d, .fieldAddr 44 x 1, ty, pos, af, g⟩ ρ w (.pointer (some ⟨b, o + 1, none⟩)) w := Do_fieldAddrC (n := 1) (m := 1) (by kernel_rfl) (by decide) hx
theorem fa54_0 {ρ : Env} {w : World} {d : Option Tmp} {x : Operand} {ty : TypeId} {pos : String} {af : Array Edge} {g : Option (Nat × Bool)} {b o : Nat} (hx : ev ρ x = .pointer (some ⟨b, o, none⟩)) : Do Tryz.prog ⟨d, .fieldAddr 54 x 0, ty, pos, af, g⟩ ρ w (.pointer (some ⟨b, o + 0, none⟩)) w := Do_fieldAddrC (n := 1) (m := 0) (by kernel_rfl) (by decide) hx
theorem fa54_1 {ρ : Env} {w : World} {d : Option Tmp} {x : Operand} {ty : TypeId} {pos : String} {af : Array Edge} {g : Option (Nat × Bool)} {b o : Nat} (hx : ev ρ x = .pointer (some ⟨b, o, none⟩)) : Do Tryz.prog ⟨d, .fieldAddr 54 x 1, ty, pos, af, g⟩ ρ w (.pointer (some ⟨b, o + 1, none⟩)) w := Do_fieldAddrC (n := 1) (m := 1) (by kernel_rfl) (by decide) hx
theorem fa54_2 {ρ : Env} {w : World} {d : Option Tmp} {x : Operand} {ty : TypeId} {pos : String} {af : Array Edge} {g : Option (Nat × Bool)} {b o : Nat} (hx : ev ρ x = .pointer (some ⟨b, o, none⟩)) : Do Tryz.prog ⟨d, .fieldAddr 54 x 2, ty, pos, af, g⟩ ρ w (.pointer (some ⟨b, o + 2, none⟩)) w := Do_fieldAddrC (n := 1) (m := 2) (by kernel_rfl) (by decide) hx
theorem fa57_0 {ρ : Env} {w : World} {d : Option Tmp} {x : Operand} {ty : TypeId} {pos : String} {af : Array Edge} {g : Option (Nat × Bool)} {b o : Nat} (hx : ev ρ x = .pointer (some ⟨b, o, none⟩)) : Do Tryz.prog ⟨d, .fieldAddr 57 x 0, ty, pos, af, g⟩ ρ w (.pointer (some ⟨b, o + 0, none⟩)) w := Do_fieldAddrC (n := 1) (m := 0) (by kernel_rfl) (by decide) hx
theorem fa57_1 {ρ : Env} {w : World} {d : Option Tmp} {x : Operand} {ty : TypeId} {pos : String} {af : Array Edge} {g : Option (Nat × Bool)} {b o : Nat} (hx : ev ρ x = .pointer (some ⟨b, o, none⟩)) : Do Tryz.prog ⟨d, .fieldAddr 57 x 1, ty, pos, af, g⟩ ρ w (.pointer (some ⟨b, o + 1, none⟩)) w := Do_fieldAddrC (n := 1) (m := 1) (by kernel_rfl) (by decide) hx
theorem fa57_2 {ρ : Env} {w : World} {d : Option Tmp} {x : Operand} {ty : TypeId} {pos : String} {af : Array Edge} {g : Option (Nat × Bool)} {b o : Nat} (hx : ev ρ x = .pointer (some ⟨b, o, none⟩)) : Do Tryz.prog ⟨d, .fieldAddr 57 x 2, ty, pos, af, g⟩ ρ w (.pointer (some ⟨b, o + 2, none⟩)) w := Do_fieldAddrC (n := 1) (m := 2) (by kernel_rfl) (by decide) hx
theorem fa57_3 {ρ : Env} {w : World} {d : Option Tmp} {x : Operand} {ty : TypeId} {pos : String} {af : Array Edge} {g : Option (Nat × Bool)} {b o : Nat} (hx : ev ρ x = .pointer (some ⟨b, o, none⟩)) : Do Tryz.prog ⟨d, .fieldAddr 57 x 3, ty, pos, af, g⟩ ρ w (.pointer (some ⟨b, o + 3, none⟩)) w := Do_fieldAddrC (n := 1) (m := 3) (by kernel_rfl) (by decide) hx
theorem fa66_0 {ρ : Env} {w : World} {d : Option Tmp} {x : Operand} {ty : TypeId} {pos : String} {af : Array Edge} {g : Option (Nat × Bool)} {b o : Nat} (hx : ev ρ x = .pointer (some ⟨b, o, none⟩)) : Do Tryz.prog ⟨d, .fieldAddr 66 x 0, ty, pos, af, g⟩ ρ w (.pointer (some ⟨b, o + 0, none⟩)) w := Do_fieldAddrC (n := 1) (m := 0) (by kernel_rfl) (by decide) hx
theorem fa66_1 {ρ : Env} {w : World} {d : Option Tmp} {x : Operand} {ty : TypeId} {pos : String} {af : Array Edge} {g : Option (Nat × Bool)} {b o : Nat} (hx : ev ρ x = .pointer (some ⟨b, o, none⟩)) : Do Tryz.prog ⟨d, .fieldAddr 66 x 1, ty, pos, af, g⟩ ρ w (.pointer (some ⟨b, o + 1, none⟩)) w := Do_fieldAddrC (n := 1) (m := 1) (by kernel_rfl) (by decide) hx
theorem fa66_2 {ρ : Env} {w : World} {d : Option Tmp} {x : Operand} {ty : TypeId} {pos : String} {af : Array Edge} {g : Option (Nat × Bool)} {b o : Nat} (hx : ev ρ x = .pointer (some ⟨b, o, none⟩)) : Do Tryz.prog ⟨d, .fieldAddr 66 x 2, ty, pos, af, g⟩ ρ w (.pointer (some ⟨b, o + 2, none⟩)) w := Do_fieldAddrC (n := 1) (m := 2) (by kernel_rfl) (by decide) hx
theorem fa66_3 {ρ : Env} {w : World} {d : Option Tmp} {x : Operand} {ty : TypeId} {pos : String} {af : Array Edge} {g : Option (Nat × Bool)} {b o : Nat} (hx : ev ρ x = .pointer (some ⟨b, o, none⟩)) : Do Tryz.prog ⟨d, .fieldAddr 66 x 3, ty, pos, af, g⟩ ρ w (.pointer (some ⟨b, o + 3, none⟩)) w := Do_fieldAddrC (n := 1) (m := 3) (by kernel_rfl) (by decide) hx
theorem fa66_4 {ρ : Env} {w : World} {d : Option Tmp} {x : Operand} {ty : TypeId} {pos : String} {af : Array Edge} {g : Option (Nat × Bool)} {b o : Nat} (hx : ev ρ x = .pointer (some ⟨b, o, none⟩)) : Do Tryz.prog ⟨d, .fieldAddr 66 x 4, ty, pos, af, g⟩ ρ w (.pointer (some ⟨b, o + 4, none⟩)) w := Do_fieldAddrC (n := 1) (m := 4) (by kernel_rfl) (by decide) hx
theorem fa66_5 {ρ : Env} {w : World} {d : Option Tmp} {x : Operand} {ty : TypeId} {pos : String} {af : Array Edge} {g : Option (Nat × Bool)} {b o : Nat} (hx : ev ρ x = .pointer (some ⟨b, o, none⟩)) : Do Tryz.prog ⟨d, .fieldAddr 66 x 5, ty, pos, af, g⟩ ρ w (.pointer (some ⟨b, o + 5, none⟩)) w := Do_fieldAddrC (n := 1) (m := 5) (by kernel_rfl) (by decide) hx
theorem fa72_0 {ρ : Env} {w : World} {d : Option Tmp} {x : Operand} {ty : TypeId} {pos : String} {af : Array Edge} {g : Option (Nat × Bool)} {b o : Nat} (hx : ev ρ x = .pointer (some ⟨b, o, none⟩)) : Do Tryz.prog ⟨d, .fieldAddr 72 x 0, ty, pos, af, g⟩ ρ w (.pointer (some ⟨b, o + 0, none⟩)) w := Do_fieldAddrC (n := 1) (m := 0) (by kernel_rfl) (by decide) hx
theorem fa72_1 {ρ : Env} {w : World} {d : Option Tmp} {x : Operand} {ty : TypeId} {pos : String} {af : Array Edge} {g : Option (Nat × Bool)} {b o : Nat} (hx : ev ρ x = .pointer (some ⟨b, o, none⟩)) : Do Tryz.prog ⟨d, .fieldAddr 72 x 1, ty, pos, af, g⟩ ρ w (.pointer (some ⟨b, o + 1, none⟩)) w := Do_fieldAddrC (n := 1) (m := 1) (by kernel_rfl) (by decide) hx
theorem fa74_0 {ρ : Env} {w : World} {d : Option Tmp} {x : Operand} {ty : TypeId} {pos : String} {af : Array Edge} {g : Option (Nat × Bool)} {b o : Nat} (hx : ev ρ x = .pointer (some ⟨b, o, none⟩)) : Do Tryz.prog ⟨d, .fieldAddr 74 x 0, ty, pos, af, g⟩ ρ w (.pointer (some ⟨b, o + 0, none⟩)) w := Do_fieldAddrC (n := 1) (m := 0) (by kernel_rfl) (by decide) hx
theorem fa74_1 {ρ : Env} {w : World} {d : Option Tmp} {x : Operand} {ty : TypeId} {pos : String} {af : Array Edge} {g : Option (Nat × Bool)} {b o : Nat} (hx : ev ρ x = .pointer (some ⟨b, o, none⟩)) : Do Tryz.prog ⟨d, .fieldAddr 74 x 1, ty, pos, af, g⟩ ρ w (.pointer (some ⟨b, o + 1, none⟩)) w := Do_fieldAddrC (n := 2) (m := 1) (by kernel_rfl) (by decide) hx
theorem fa74_2 {ρ : Env} {w : World} {d : Option Tmp} {x : Operand} {ty : TypeId} {pos : String} {af : Array Edge} {g : Option (Nat × Bool)} {b o : Nat} (hx : ev ρ x = .pointer (some ⟨b, o, none⟩)) : Do Tryz.prog ⟨d, .fieldAddr 74 x 2, ty, pos, af, g⟩ ρ w (.pointer (some ⟨b, o + 3, none⟩)) w := Do_fieldAddrC (n := 1) (m := 3) (by kernel_rfl) (by decide) hx
theorem fa91_0 {ρ : Env} {w : World} {d : Option Tmp} {x : Operand} {ty : TypeId} {pos : String} {af : Array Edge} {g : Option (Nat × Bool)} {b o : Nat} (hx : ev ρ x = .pointer (some ⟨b, o, none⟩)) : Do Tryz.prog ⟨d, .fieldAddr 91 x 0, ty, pos, af, g⟩ ρ w (.pointer (some ⟨b, o + 0, none⟩)) w := Do_fieldAddrC (n := 1) (m := 0) (by kernel_rfl) (by decide) hx
theorem fa91_1 {ρ : Env} {w : World} {d : Option Tmp} {x : Operand} {ty : TypeId} {pos : String} {af : Array Edge} {g : Option (Nat × Bool)} {b o : Nat} (hx : ev ρ x = .pointer (some ⟨b, o, none⟩)) : Do Tryz.prog ⟨d, .fieldAddr 91 x 1, ty, pos, af, g⟩ ρ w (.pointer (some ⟨b, o + 1, none⟩)) w := Do_fieldAddrC (n := 1) (m := 1) (by kernel_rfl) (by decide) hx
theorem fa97_0 {ρ : Env} {w : World} {d : Option Tmp} {x : Operand} {ty : TypeId} {pos : String} {af : Array Edge} {g : Option (Nat × Bool)} {b o : Nat} (hx : ev ρ x = .pointer (some ⟨b, o, none⟩)) : Do Tryz.prog ⟨d, .fieldAddr 97 x 0, ty, pos, af, g⟩ ρ w (.pointer (some ⟨b, o + 0, none⟩)) w := Do_fieldAddrC (n := 1) (m := 0) (by kernel_rfl) (by decide) hx
theorem fa97_1 {ρ : Env} {w : World} {d : Option Tmp} {x : Operand} {ty : TypeId} {pos : String} {af : Array Edge} {g : Option (Nat × Bool)} {b o : Nat} (hx : ev ρ x = .pointer (some ⟨b, o, none⟩)) : Do Tryz.prog ⟨d, .fieldAddr 97 x 1, ty, pos, af, g⟩ ρ w (.pointer (some ⟨b, o + 1, none⟩)) w := Do_fieldAddrC (n := 1) (m := 1) (by kernel_rfl) (by decide) hx
theorem fa97_2 {ρ : Env} {w : World} {d : Option Tmp} {x : Operand} {ty : TypeId} {pos : String} {af : Array Edge} {g : Option (Nat × Bool)} {b o : Nat} (hx : ev ρ x = .pointer (some ⟨b, o, none⟩)) : Do Tryz.prog ⟨d, .fieldAddr 97 x 2, ty, pos, af, g⟩ ρ w (.pointer (some ⟨b, o + 2, none⟩)) w := Do_fieldAddrC (n := 1) (m := 2) (by kernel_rfl) (by decide) hx
theorem eqf3 : EqF Tryz.prog 3 (Fl.int .i64) 1 := EqF.int Tryz.underlying3
theorem eqf31 : EqF Tryz.prog 31 flRatio 2 := EqF.struct (k := 1) (fun x y h => by cases x; cases y; simp_all) Tryz.underlying31 (by kernel_rfl) (by unfold Sz; kernel_rfl) ((EqFs.cons rfl (by decide) (eqf3.up (by decide)) (EqFs.one rfl (by decide) (eqf3.up (by decide)))))
theorem en4 : Go.OB.Enters Tryz.prog 4 := ⟨_, Tryz.func4, rfl, by kernel_rfl⟩
theorem en5 : Go.OB.Enters Tryz.prog 5 := ⟨_, Tryz.func5, rfl, by kernel_rfl⟩
theorem en6 : Go.OB.Enters Tryz.prog 6 := ⟨_, Tryz.func6, rfl, by kernel_rfl⟩
theorem en7 : Go.OB.Enters Tryz.prog 7 := ⟨_, Tryz.func7, rfl, by kernel_rfl⟩
theorem en8 : Go.OB.Enters Tryz.prog 8 := ⟨_, Tryz.func8, rfl, by kernel_rfl⟩
theorem en9 : Go.OB.Enters Tryz.prog 9 := ⟨_, Tryz.func9, rfl, by kernel_rfl⟩
theorem en10 : Go.OB.Enters Tryz.prog 10 := ⟨_, Tryz.func10, rfl, by kernel_rfl⟩
theorem en11 : Go.OB.Enters Tryz.prog 11 := ⟨_, Tryz.func11, rfl, by kernel_rfl⟩
theorem en12 : Go.OB.Enters Tryz.prog 12 := ⟨_, Tryz.func12, rfl, by kernel_rfl⟩
theorem en13 : Go.OB.Enters Tryz.prog 13 := ⟨_, Tryz.func13, rfl, by kernel_rfl⟩
theorem en14 : Go.OB.Enters Tryz.prog 14 := ⟨_, Tryz.func14, rfl, by kernel_rfl⟩
theorem en15 : Go.OB.Enters Tryz.prog 15 := ⟨_, Tryz.func15, rfl, by kernel_rfl⟩
theorem en16 : Go.OB.Enters Tryz.prog 16 := ⟨_, Tryz.func16, rfl, by kernel_rfl⟩
theorem en17 : Go.OB.Enters Tryz.prog 17 := ⟨_, Tryz.func17, rfl, by kernel_rfl⟩
theorem en18 : Go.OB.Enters Tryz.prog 18 := ⟨_, Tryz.func18, rfl, by kernel_rfl⟩
theorem en19 : Go.OB.Enters Tryz.prog 19 := ⟨_, Tryz.func19, rfl, by kernel_rfl⟩
theorem en20 : Go.OB.Enters Tryz.prog 20 := ⟨_, Tryz.func20, rfl, by kernel_rfl⟩
theorem en21 : Go.OB.Enters Tryz.prog 21 := ⟨_, Tryz.func21, rfl, by kernel_rfl⟩
theorem en22 : Go.OB.Enters Tryz.prog 22 := ⟨_, Tryz.func22, rfl, by kernel_rfl⟩
theorem en23 : Go.OB.Enters Tryz.prog 23 := ⟨_, Tryz.func23, rfl, by kernel_rfl⟩
theorem en24 : Go.OB.Enters Tryz.prog 24 := ⟨_, Tryz.func24, rfl, by kernel_rfl⟩
theorem en25 : Go.OB.Enters Tryz.prog 25 := ⟨_, Tryz.func25, rfl, by kernel_rfl⟩
theorem en26 : Go.OB.Enters Tryz.prog 26 := ⟨_, Tryz.func26, rfl, by kernel_rfl⟩
theorem en27 : Go.OB.Enters Tryz.prog 27 := ⟨_, Tryz.func27, rfl, by kernel_rfl⟩
theorem en28 : Go.OB.Enters Tryz.prog 28 := ⟨_, Tryz.func28, rfl, by kernel_rfl⟩
theorem en29 : Go.OB.Enters Tryz.prog 29 := ⟨_, Tryz.func29, rfl, by kernel_rfl⟩
theorem en30 : Go.OB.Enters Tryz.prog 30 := ⟨_, Tryz.func30, rfl, by kernel_rfl⟩
theorem en31 : Go.OB.Enters Tryz.prog 31 := ⟨_, Tryz.func31, rfl, by kernel_rfl⟩
theorem en32 : Go.OB.Enters Tryz.prog 32 := ⟨_, Tryz.func32, rfl, by kernel_rfl⟩
theorem en33 : Go.OB.Enters Tryz.prog 33 := ⟨_, Tryz.func33, rfl, by kernel_rfl⟩
theorem en34 : Go.OB.Enters Tryz.prog 34 := ⟨_, Tryz.func34, rfl, by kernel_rfl⟩
theorem en35 : Go.OB.Enters Tryz.prog 35 := ⟨_, Tryz.func35, rfl, by kernel_rfl⟩
theorem en36 : Go.OB.Enters Tryz.prog 36 := ⟨_, Tryz.func36, rfl, by kernel_rfl⟩
theorem en37 : Go.OB.Enters Tryz.prog 37 := ⟨_, Tryz.func37, rfl, by kernel_rfl⟩
theorem en38 : Go.OB.Enters Tryz.prog 38 := ⟨_, Tryz.func38, rfl, by kernel_rfl⟩
theorem en39 : Go.OB.Enters Tryz.prog 39 := ⟨_, Tryz.func39, rfl, by kernel_rfl⟩
theorem en40 : Go.OB.Enters Tryz.prog 40 := ⟨_, Tryz.func40, rfl, by kernel_rfl⟩
theorem en41 : Go.OB.Enters Tryz.prog 41 := ⟨_, Tryz.func41, rfl, by kernel_rfl⟩
theorem en42 : Go.OB.Enters Tryz.prog 42 := ⟨_, Tryz.func42, rfl, by kernel_rfl⟩
theorem en43 : Go.OB.Enters Tryz.prog 43 := ⟨_, Tryz.func43, rfl, by kernel_rfl⟩
theorem en44 : Go.OB.Enters Tryz.prog 44 := ⟨_, Tryz.func44, rfl, by kernel_rfl⟩
theorem en45 : Go.OB.Enters Tryz.prog 45 := ⟨_, Tryz.func45, rfl, by kernel_rfl⟩
theorem en46 : Go.OB.Enters Tryz.prog 46 := ⟨_, Tryz.func46, rfl, by kernel_rfl⟩
theorem en47 : Go.OB.Enters Tryz.prog 47 := ⟨_, Tryz.func47, rfl, by kernel_rfl⟩
theorem en48 : Go.OB.Enters Tryz.prog 48 := ⟨_, Tryz.func48, rfl, by kernel_rfl⟩
theorem en49 : Go.OB.Enters Tryz.prog 49 := ⟨_, Tryz.func49, rfl, by kernel_rfl⟩
theorem en50 : Go.OB.Enters Tryz.prog 50 := ⟨_, Tryz.func50, rfl, by kernel_rfl⟩
theorem en53 : Go.OB.Enters Tryz.prog 53 := ⟨_, Tryz.func53, rfl, by kernel_rfl⟩
theorem en54 : Go.OB.Enters Tryz.prog 54 := ⟨_, Tryz.func54, rfl, by kernel_rfl⟩
theorem en55 : Go.OB.Enters Tryz.prog 55 := ⟨_, Tryz.func55, rfl, by kernel_rfl⟩
theorem en56 : Go.OB.Enters Tryz.prog 56 := ⟨_, Tryz.func56, rfl, by kernel_rfl⟩
theorem en57 : Go.OB.Enters Tryz.prog 57 := ⟨_, Tryz.func57, rfl, by kernel_rfl⟩
theorem en58 : Go.OB.Enters Tryz.prog 58 := ⟨_, Tryz.func58, rfl, by kernel_rfl⟩
theorem en59 : Go.OB.Enters Tryz.prog 59 := ⟨_, Tryz.func59, rfl, by kernel_rfl⟩
theorem en60 : Go.OB.Enters Tryz.prog 60 := ⟨_, Tryz.func60, rfl, by kernel_rfl⟩
theorem en61 : Go.OB.Enters Tryz.prog 61 := ⟨_, Tryz.func61, rfl, by kernel_rfl⟩
theorem en62 : Go.OB.Enters Tryz.prog 62 := ⟨_, Tryz.func62, rfl, by kernel_rfl⟩
theorem en63 : Go.OB.Enters Tryz.prog 63 := ⟨_, Tryz.func63, rfl, by kernel_rfl⟩
theorem en64 : Go.OB.Enters Tryz.prog 64 := ⟨_, Tryz.func64, rfl, by kernel_rfl⟩
theorem en65 : Go.OB.Enters Tryz.prog 65 := ⟨_, Tryz.func65, rfl, by kernel_rfl⟩
theorem en66 : Go.OB.Enters Tryz.prog 66 := ⟨_, Tryz.func66, rfl, by kernel_rfl⟩
theorem en67 : Go.OB.Enters Tryz.prog 67 := ⟨_, Tryz.func67, rfl, by kernel_rfl⟩
theorem en68 : Go.OB.Enters Tryz.prog 68 := ⟨_, Tryz.func68, rfl, by kernel_rfl⟩
theorem en69 : Go.OB.Enters Tryz.prog 69 := ⟨_, Tryz.func69, rfl, by kernel_rfl⟩
theorem en81 : Go.OB.Enters Tryz.prog 81 := ⟨_, Tryz.func81, rfl, by kernel_rfl⟩
theorem en82 : Go.OB.Enters Tryz.prog 82 := ⟨_, Tryz.func82, rfl, by kernel_rfl⟩
theorem en84 : Go.OB.Enters Tryz.prog 84 := ⟨_, Tryz.func84, rfl, by kernel_rfl⟩
theorem en85 : Go.OB.Enters Tryz.prog 85 := ⟨_, Tryz.func85, rfl, by kernel_rfl⟩
theorem en86 : Go.OB.Enters Tryz.prog 86 := ⟨_, Tryz.func86, rfl, by kernel_rfl⟩
theorem en87 : Go.OB.Enters Tryz.prog 87 := ⟨_, Tryz.func87, rfl, by kernel_rfl⟩
theorem en94 : Go.OB.Enters Tryz.prog 94 := ⟨_, Tryz.func94, rfl, by kernel_rfl⟩
theorem en95 : Go.OB.Enters Tryz.prog 95 := ⟨_, Tryz.func95, rfl, by kernel_rfl⟩
theorem en96 : Go.OB.Enters Tryz.prog 96 := ⟨_, Tryz.func96, rfl, by kernel_rfl⟩
theorem en97 : Go.OB.Enters Tryz.prog 97 := ⟨_, Tryz.func97, rfl, by kernel_rfl⟩
theorem en99 : Go.OB.Enters Tryz.prog 99 := ⟨_, Tryz.func99, rfl, by kernel_rfl⟩
theorem en100 : Go.OB.Enters Tryz.prog 100 := ⟨_, Tryz.func100, rfl, by kernel_rfl⟩
theorem en101 : Go.OB.Enters Tryz.prog 101 := ⟨_, Tryz.func101, rfl, by kernel_rfl⟩
theorem en102 : Go.OB.Enters Tryz.prog 102 := ⟨_, Tryz.func102, rfl, by kernel_rfl⟩
theorem en103 : Go.OB.Enters Tryz.prog 103 := ⟨_, Tryz.func103, rfl, by kernel_rfl⟩
theorem mixed : Tryz.prog.follows .mixedOrders = true := by kernel_rfl
end Go.Proofs.YtbjhondbheijiaaGreat.L
namespace Go.Proofs.YtbjhondbheijiaaGreat.L
open Go.RowKit Go.OB Go.Lf
/- orangebox/fleet.within -/
set_option maxHeartbeats 4000000 in
theorem F_fleet_within_w (p0 : Int) (p1 : Int) (p2 : Int) (r : Bool) (hF : F_fleet_within p0 p1 p2 = some r) (O S : List Nat) (w : World) (H : Hd O w w S []) :
    Calls Tryz.prog 10 ([.int .i64 p0, .int .i64 p1, .int .i64 p2] : List Value).toArray w fun e w' => e = .returned (.bool r) ∧ Hd O w w' S [] := by
  unfold F_fleet_within at hF
  refine calls_of_WP 15 Tryz.func10 rfl rfl rfl ?_
  refine WP_seq_k fun K1 hK1 => ?_
  refine WP_region ?_
  refine RL_do rfl rfl (Do_assign (v := .bool false) rfl) ?_
  refine (RL_nil (thenQ_n (hK1 _ _ ?_)))
  obtain ⟨g7, hF, hK9⟩ := bindO_some hF
  refine WP_seqS [6, 7, 8, 9, 10, 11, 12, 13, 14] (fun (g : Unit) => [(6, .bool g7)]) (fun g wl => Hd O w wl S []) ?_ ?_
  · skip
    refine WP_region ?_
    refine RL_do rfl rfl (Do_move (v := .int .i64 p0) rfl) ?_
    refine RL_do rfl rfl (Do_move (v := .int .i64 p1) rfl) ?_
    obtain ⟨x10, e11, hF⟩ := letO_some hF
    refine RL_do rfl rfl (Do_as (Do_geq (a := p0) (b := p1) rfl rfl) (congrArg Value.bool e11)) ?_
    refine RL_splitb (b := x10) rfl rfl rfl (fun c12 => ?_) (fun c12 => ?_)
    · have hF := iteB_t c12 hF
      refine RL_do rfl rfl (Do_move (v := .int .i64 p0) rfl) ?_
      refine RL_do rfl rfl (Do_move (v := .int .i64 p2) rfl) ?_
      obtain ⟨x13, e14, hF⟩ := letO_some hF
      refine RL_do rfl rfl (Do_as (Do_leq (a := p0) (b := p2) rfl rfl) (congrArg Value.bool e14)) ?_
      refine RL_do rfl rfl (Do_pick_t (v := .bool x13) rfl rfl) ?_
      refine RL_do rfl rfl (Do_assign (v := .bool x13) rfl) ?_
      have hR := Option.some.inj hF
      subst hR
      refine (RL_nil (thenQ_n (And.intro ?_ ?_)))
      · repeat' (first | with_reducible exact Fr_refl | refine Fr_upd rfl ?_ | refine Fr_over rfl rfl ?_)
      · exact ⟨(), (Sl_cons rfl Sl_nil), H.pick [] (by decide)⟩
    · have hF := iteB_f c12 hF
      refine RL_off rfl rfl ?_
      refine RL_off rfl rfl ?_
      refine RL_off rfl rfl ?_
      refine RL_do rfl rfl (Do_pick_f (v := .bool false) rfl rfl) ?_
      refine RL_do rfl rfl (Do_assign (v := .bool false) rfl) ?_
      have hR := Option.some.inj hF
      subst hR
      refine (RL_nil (thenQ_n (And.intro ?_ ?_)))
      · repeat' (first | with_reducible exact Fr_refl | refine Fr_upd rfl ?_ | refine Fr_over rfl rfl ?_)
      · exact ⟨(), (Sl_cons rfl Sl_nil), H.pick [] (by decide)⟩
  · rintro _ ρ w8 H
    have hF := hK9
    have hR := Option.some.inj hF
    subst hR
    refine (WP_ret (post1 (v1 := .bool g7) rfl rfl ?_))
    exact ⟨rfl, H.pick [] (by decide)⟩
end Go.Proofs.YtbjhondbheijiaaGreat.L
namespace Go.Proofs.YtbjhondbheijiaaGreat.L
open Go.RowKit Go.OB Go.Lf
/- orangebox/event.within -/
set_option maxHeartbeats 4000000 in
theorem F_event_within_w (p0 : Int) (p1 : Int) (p2 : Int) (r : Bool) (hF : F_event_within p0 p1 p2 = some r) (O S : List Nat) (w : World) (H : Hd O w w S []) :
    Calls Tryz.prog 66 ([.int .i64 p0, .int .i64 p1, .int .i64 p2] : List Value).toArray w fun e w' => e = .returned (.bool r) ∧ Hd O w w' S [] := by
  unfold F_event_within at hF
  refine calls_of_WP 15 Tryz.func66 rfl rfl rfl ?_
  refine WP_seq_k fun K1 hK1 => ?_
  refine WP_region ?_
  refine RL_do rfl rfl (Do_assign (v := .bool false) rfl) ?_
  refine (RL_nil (thenQ_n (hK1 _ _ ?_)))
  obtain ⟨g7, hF, hK9⟩ := bindO_some hF
  refine WP_seqS [6, 7, 8, 9, 10, 11, 12, 13, 14] (fun (g : Unit) => [(6, .bool g7)]) (fun g wl => Hd O w wl S []) ?_ ?_
  · skip
    refine WP_region ?_
    refine RL_do rfl rfl (Do_move (v := .int .i64 p0) rfl) ?_
    refine RL_do rfl rfl (Do_move (v := .int .i64 p1) rfl) ?_
    obtain ⟨x10, e11, hF⟩ := letO_some hF
    refine RL_do rfl rfl (Do_as (Do_geq (a := p0) (b := p1) rfl rfl) (congrArg Value.bool e11)) ?_
    refine RL_splitb (b := x10) rfl rfl rfl (fun c12 => ?_) (fun c12 => ?_)
    · have hF := iteB_t c12 hF
      refine RL_do rfl rfl (Do_move (v := .int .i64 p0) rfl) ?_
      refine RL_do rfl rfl (Do_move (v := .int .i64 p2) rfl) ?_
      obtain ⟨x13, e14, hF⟩ := letO_some hF
      refine RL_do rfl rfl (Do_as (Do_leq (a := p0) (b := p2) rfl rfl) (congrArg Value.bool e14)) ?_
      refine RL_do rfl rfl (Do_pick_t (v := .bool x13) rfl rfl) ?_
      refine RL_do rfl rfl (Do_assign (v := .bool x13) rfl) ?_
      have hR := Option.some.inj hF
      subst hR
      refine (RL_nil (thenQ_n (And.intro ?_ ?_)))
      · repeat' (first | with_reducible exact Fr_refl | refine Fr_upd rfl ?_ | refine Fr_over rfl rfl ?_)
      · exact ⟨(), (Sl_cons rfl Sl_nil), H.pick [] (by decide)⟩
    · have hF := iteB_f c12 hF
      refine RL_off rfl rfl ?_
      refine RL_off rfl rfl ?_
      refine RL_off rfl rfl ?_
      refine RL_do rfl rfl (Do_pick_f (v := .bool false) rfl rfl) ?_
      refine RL_do rfl rfl (Do_assign (v := .bool false) rfl) ?_
      have hR := Option.some.inj hF
      subst hR
      refine (RL_nil (thenQ_n (And.intro ?_ ?_)))
      · repeat' (first | with_reducible exact Fr_refl | refine Fr_upd rfl ?_ | refine Fr_over rfl rfl ?_)
      · exact ⟨(), (Sl_cons rfl Sl_nil), H.pick [] (by decide)⟩
  · rintro _ ρ w8 H
    have hF := hK9
    have hR := Option.some.inj hF
    subst hR
    refine (WP_ret (post1 (v1 := .bool g7) rfl rfl ?_))
    exact ⟨rfl, H.pick [] (by decide)⟩
end Go.Proofs.YtbjhondbheijiaaGreat.L
namespace Go.Proofs.YtbjhondbheijiaaGreat.L
open Go.RowKit Go.OB Go.Lf
/- orangebox/event.isWord -/
set_option maxHeartbeats 4000000 in
theorem F_event_isWord_w (p0 : Str) (r : Bool) (hF : F_event_isWord p0 = some r) (O S : List Nat) (w : World) (H : Hd O w w S []) :
    Calls Tryz.prog 67 ([.string (bs p0)] : List Value).toArray w fun e w' => e = .returned (.bool r) ∧ Hd O w w' S [] := by
  unfold F_event_isWord at hF
  refine calls_of_WP 21 Tryz.func67 rfl rfl rfl ?_
  refine WP_seq_k fun K1 hK1 => ?_
  refine WP_region ?_
  refine RL_do rfl rfl (Do_assign (v := .bool false) rfl) ?_
  refine (RL_nil (thenQ_n (hK1 _ _ ?_)))
  refine WP_seq_k fun K70 hK70 => ?_
  refine WP_seq_k fun K71 hK71 => ?_
  refine WP_region ?_
  refine RL_do rfl rfl (Do_move (v := .string (bs p0)) rfl) ?_
  refine (RL_nil (thenQ_n (hK71 _ _ ?_)))
  refine WP_block ?_
  obtain ⟨g134, hF, hK136⟩ := bindO_some hF
  refine WP_seqS [4, 5, 6, 7, 8, 9, 10, 11, 12, 13, 14, 15, 16, 17, 18, 19, 20] (fun (g : Unit) => [(4, .bool g134)]) (fun g wl => Hd O w wl S []) ?_ ?_
  · skip
    refine WP_seq_k fun K137 hK137 => ?_
    refine WP_region ?_
    obtain ⟨x138, e139, hF⟩ := letO_some hF
    refine RL_do rfl rfl (Do_as (Do_eqls (s1 := p0) (s2 := [112, 104, 97, 115, 101]) rfl rfl) (congrArg Value.bool e139)) ?_
    refine RL_do rfl rfl (Do_assign (v := .bool x138) rfl) ?_
    refine (RL_nil (thenQ_n (hK137 _ _ ?_)))
    refine WP_ifb (b := x138) rfl (fun c140 => ?_) (fun c140 => ?_)
    · have hF := iteB_t c140 hF
      have hR := Option.some.inj hF
      subst hR
      refine (WP_skip (thenQ_n (And.intro ?_ ?_)))
      · repeat' (first | with_reducible exact Fr_refl | refine Fr_upd rfl ?_ | refine Fr_over rfl rfl ?_)
      · exact ⟨(), (Sl_cons rfl Sl_nil), H.pick [] (by decide)⟩
    · have hF := iteB_f c140 hF
      refine WP_seq_k fun K141 hK141 => ?_
      refine WP_region ?_
      obtain ⟨x142, e143, hF⟩ := letO_some hF
      refine RL_do rfl rfl (Do_as (Do_eqls (s1 := p0) (s2 := [109, 111, 118, 101]) rfl rfl) (congrArg Value.bool e143)) ?_
      refine RL_do rfl rfl (Do_assign (v := .bool x142) rfl) ?_
      refine (RL_nil (thenQ_n (hK141 _ _ ?_)))
      refine WP_ifb (b := x142) rfl (fun c144 => ?_) (fun c144 => ?_)
      · have hF := iteB_t c144 hF
        have hR := Option.some.inj hF
        subst hR
        refine (WP_skip (thenQ_n (And.intro ?_ ?_)))
        · repeat' (first | with_reducible exact Fr_refl | refine Fr_upd rfl ?_ | refine Fr_over rfl rfl ?_)
        · exact ⟨(), (Sl_cons rfl Sl_nil), H.pick [] (by decide)⟩
      · have hF := iteB_f c144 hF
        refine WP_seq_k fun K145 hK145 => ?_
        refine WP_region ?_
        obtain ⟨x146, e147, hF⟩ := letO_some hF
        refine RL_do rfl rfl (Do_as (Do_eqls (s1 := p0) (s2 := [114, 117, 108, 101]) rfl rfl) (congrArg Value.bool e147)) ?_
        refine RL_do rfl rfl (Do_assign (v := .bool x146) rfl) ?_
        refine (RL_nil (thenQ_n (hK145 _ _ ?_)))
        refine WP_ifb (b := x146) rfl (fun c148 => ?_) (fun c148 => ?_)
        · have hF := iteB_t c148 hF
          have hR := Option.some.inj hF
          subst hR
          refine (WP_skip (thenQ_n (And.intro ?_ ?_)))
          · repeat' (first | with_reducible exact Fr_refl | refine Fr_upd rfl ?_ | refine Fr_over rfl rfl ?_)
          · exact ⟨(), (Sl_cons rfl Sl_nil), H.pick [] (by decide)⟩
        · have hF := iteB_f c148 hF
          refine WP_seq_k fun K149 hK149 => ?_
          refine WP_region ?_
          obtain ⟨x150, e151, hF⟩ := letO_some hF
          refine RL_do rfl rfl (Do_as (Do_eqls (s1 := p0) (s2 := [105, 102]) rfl rfl) (congrArg Value.bool e151)) ?_
          refine RL_do rfl rfl (Do_assign (v := .bool x150) rfl) ?_
          refine (RL_nil (thenQ_n (hK149 _ _ ?_)))
          refine WP_ifb (b := x150) rfl (fun c152 => ?_) (fun c152 => ?_)
          · have hF := iteB_t c152 hF
            have hR := Option.some.inj hF
            subst hR
            refine (WP_skip (thenQ_n (And.intro ?_ ?_)))
            · repeat' (first | with_reducible exact Fr_refl | refine Fr_upd rfl ?_ | refine Fr_over rfl rfl ?_)
            · exact ⟨(), (Sl_cons rfl Sl_nil), H.pick [] (by decide)⟩
          · have hF := iteB_f c152 hF
            refine WP_seq_k fun K153 hK153 => ?_
            refine WP_region ?_
            obtain ⟨x154, e155, hF⟩ := letO_some hF
            refine RL_do rfl rfl (Do_as (Do_eqls (s1 := p0) (s2 := [111, 114]) rfl rfl) (congrArg Value.bool e155)) ?_
            refine RL_do rfl rfl (Do_assign (v := .bool x154) rfl) ?_
            refine (RL_nil (thenQ_n (hK153 _ _ ?_)))
            refine WP_ifb (b := x154) rfl (fun c156 => ?_) (fun c156 => ?_)
            · have hF := iteB_t c156 hF
              have hR := Option.some.inj hF
              subst hR
              refine (WP_skip (thenQ_n (And.intro ?_ ?_)))
              · repeat' (first | with_reducible exact Fr_refl | refine Fr_upd rfl ?_ | refine Fr_over rfl rfl ?_)
              · exact ⟨(), (Sl_cons rfl Sl_nil), H.pick [] (by decide)⟩
            · have hF := iteB_f c156 hF
              refine WP_seq_k fun K157 hK157 => ?_
              refine WP_region ?_
              obtain ⟨x158, e159, hF⟩ := letO_some hF
              refine RL_do rfl rfl (Do_as (Do_eqls (s1 := p0) (s2 := [97, 110, 100]) rfl rfl) (congrArg Value.bool e159)) ?_
              refine RL_do rfl rfl (Do_assign (v := .bool x158) rfl) ?_
              refine (RL_nil (thenQ_n (hK157 _ _ ?_)))
              refine WP_ifb (b := x158) rfl (fun c160 => ?_) (fun c160 => ?_)
              · have hF := iteB_t c160 hF
                have hR := Option.some.inj hF
                subst hR
                refine (WP_skip (thenQ_n (And.intro ?_ ?_)))
                · repeat' (first | with_reducible exact Fr_refl | refine Fr_upd rfl ?_ | refine Fr_over rfl rfl ?_)
                · exact ⟨(), (Sl_cons rfl Sl_nil), H.pick [] (by decide)⟩
              · have hF := iteB_f c160 hF
                refine WP_seq_k fun K161 hK161 => ?_
                refine WP_region ?_
                obtain ⟨x162, e163, hF⟩ := letO_some hF
                refine RL_do rfl rfl (Do_as (Do_eqls (s1 := p0) (s2 := [116, 114, 117, 101]) rfl rfl) (congrArg Value.bool e163)) ?_
                refine RL_do rfl rfl (Do_assign (v := .bool x162) rfl) ?_
                refine (RL_nil (thenQ_n (hK161 _ _ ?_)))
                refine WP_ifb (b := x162) rfl (fun c164 => ?_) (fun c164 => ?_)
                · have hF := iteB_t c164 hF
                  have hR := Option.some.inj hF
                  subst hR
                  refine (WP_skip (thenQ_n (And.intro ?_ ?_)))
                  · repeat' (first | with_reducible exact Fr_refl | refine Fr_upd rfl ?_ | refine Fr_over rfl rfl ?_)
                  · exact ⟨(), (Sl_cons rfl Sl_nil), H.pick [] (by decide)⟩
                · have hF := iteB_f c164 hF
                  refine WP_seq_k fun K165 hK165 => ?_
                  refine WP_region ?_
                  obtain ⟨x166, e167, hF⟩ := letO_some hF
                  refine RL_do rfl rfl (Do_as (Do_eqls (s1 := p0) (s2 := [102, 97, 108, 115, 101]) rfl rfl) (congrArg Value.bool e167)) ?_
                  refine RL_do rfl rfl (Do_assign (v := .bool x166) rfl) ?_
                  refine (RL_nil (thenQ_n (hK165 _ _ ?_)))
                  refine WP_ifb (b := x166) rfl (fun c168 => ?_) (fun c168 => ?_)
                  · have hF := iteB_t c168 hF
                    have hR := Option.some.inj hF
                    subst hR
                    refine (WP_skip (thenQ_n (And.intro ?_ ?_)))
                    · repeat' (first | with_reducible exact Fr_refl | refine Fr_upd rfl ?_ | refine Fr_over rfl rfl ?_)
                    · exact ⟨(), (Sl_cons rfl Sl_nil), H.pick [] (by decide)⟩
                  · have hF := iteB_f c168 hF
                    refine WP_seq_k fun K169 hK169 => ?_
                    refine WP_region ?_
                    obtain ⟨x170, e171, hF⟩ := letO_some hF
                    refine RL_do rfl rfl (Do_as (Do_eqls (s1 := p0) (s2 := [115, 116, 101, 97, 100, 121]) rfl rfl) (congrArg Value.bool e171)) ?_
                    refine RL_do rfl rfl (Do_assign (v := .bool x170) rfl) ?_
                    refine (RL_nil (thenQ_n (hK169 _ _ ?_)))
                    refine WP_ifb (b := x170) rfl (fun c172 => ?_) (fun c172 => ?_)
                    · have hF := iteB_t c172 hF
                      have hR := Option.some.inj hF
                      subst hR
                      refine (WP_skip (thenQ_n (And.intro ?_ ?_)))
                      · repeat' (first | with_reducible exact Fr_refl | refine Fr_upd rfl ?_ | refine Fr_over rfl rfl ?_)
                      · exact ⟨(), (Sl_cons rfl Sl_nil), H.pick [] (by decide)⟩
                    · have hF := iteB_f c172 hF
                      refine WP_seq_k fun K173 hK173 => ?_
                      refine WP_region ?_
                      obtain ⟨x174, e175, hF⟩ := letO_some hF
                      refine RL_do rfl rfl (Do_as (Do_eqls (s1 := p0) (s2 := [110, 111, 116]) rfl rfl) (congrArg Value.bool e175)) ?_
                      refine RL_do rfl rfl (Do_assign (v := .bool x174) rfl) ?_
                      refine (RL_nil (thenQ_n (hK173 _ _ ?_)))
                      refine WP_ifb (b := x174) rfl (fun c176 => ?_) (fun c176 => ?_)
                      · have hF := iteB_t c176 hF
                        have hR := Option.some.inj hF
                        subst hR
                        refine (WP_skip (thenQ_n (And.intro ?_ ?_)))
                        · repeat' (first | with_reducible exact Fr_refl | refine Fr_upd rfl ?_ | refine Fr_over rfl rfl ?_)
                        · exact ⟨(), (Sl_cons rfl Sl_nil), H.pick [] (by decide)⟩
                      · have hF := iteB_f c176 hF
                        refine WP_seq_k fun K177 hK177 => ?_
                        refine WP_region ?_
                        obtain ⟨x178, e179, hF⟩ := letO_some hF
                        refine RL_do rfl rfl (Do_as (Do_eqls (s1 := p0) (s2 := [102, 111, 114]) rfl rfl) (congrArg Value.bool e179)) ?_
                        refine RL_do rfl rfl (Do_assign (v := .bool x178) rfl) ?_
                        refine (RL_nil (thenQ_n (hK177 _ _ ?_)))
                        refine WP_ifb (b := x178) rfl (fun c180 => ?_) (fun c180 => ?_)
                        · have hF := iteB_t c180 hF
                          have hR := Option.some.inj hF
                          subst hR
                          refine (WP_skip (thenQ_n (And.intro ?_ ?_)))
                          · repeat' (first | with_reducible exact Fr_refl | refine Fr_upd rfl ?_ | refine Fr_over rfl rfl ?_)
                          · exact ⟨(), (Sl_cons rfl Sl_nil), H.pick [] (by decide)⟩
                        · have hF := iteB_f c180 hF
                          refine WP_seq_k fun K181 hK181 => ?_
                          refine WP_region ?_
                          obtain ⟨x182, e183, hF⟩ := letO_some hF
                          refine RL_do rfl rfl (Do_as (Do_eqls (s1 := p0) (s2 := [119, 105, 116, 104, 105, 110]) rfl rfl) (congrArg Value.bool e183)) ?_
                          refine RL_do rfl rfl (Do_assign (v := .bool x182) rfl) ?_
                          refine (RL_nil (thenQ_n (hK181 _ _ ?_)))
                          refine WP_ifb (b := x182) rfl (fun c184 => ?_) (fun c184 => ?_)
                          · have hF := iteB_t c184 hF
                            have hR := Option.some.inj hF
                            subst hR
                            refine (WP_skip (thenQ_n (And.intro ?_ ?_)))
                            · repeat' (first | with_reducible exact Fr_refl | refine Fr_upd rfl ?_ | refine Fr_over rfl rfl ?_)
                            · exact ⟨(), (Sl_cons rfl Sl_nil), H.pick [] (by decide)⟩
                          · have hF := iteB_f c184 hF
                            refine WP_seq_k fun K185 hK185 => ?_
                            refine WP_region ?_
                            obtain ⟨x186, e187, hF⟩ := letO_some hF
                            refine RL_do rfl rfl (Do_as (Do_eqls (s1 := p0) (s2 := [99, 111, 117, 110, 116]) rfl rfl) (congrArg Value.bool e187)) ?_
                            refine RL_do rfl rfl (Do_assign (v := .bool x186) rfl) ?_
                            refine (RL_nil (thenQ_n (hK185 _ _ ?_)))
                            refine WP_ifb (b := x186) rfl (fun c188 => ?_) (fun c188 => ?_)
                            · have hF := iteB_t c188 hF
                              have hR := Option.some.inj hF
                              subst hR
                              refine (WP_skip (thenQ_n (And.intro ?_ ?_)))
                              · repeat' (first | with_reducible exact Fr_refl | refine Fr_upd rfl ?_ | refine Fr_over rfl rfl ?_)
                              · exact ⟨(), (Sl_cons rfl Sl_nil), H.pick [] (by decide)⟩
                            · have hF := iteB_f c188 hF
                              refine WP_seq_k fun K189 hK189 => ?_
                              refine WP_region ?_
                              obtain ⟨x190, e191, hF⟩ := letO_some hF
                              refine RL_do rfl rfl (Do_as (Do_eqls (s1 := p0) (s2 := [111, 102]) rfl rfl) (congrArg Value.bool e191)) ?_
                              refine RL_do rfl rfl (Do_assign (v := .bool x190) rfl) ?_
                              refine (RL_nil (thenQ_n (hK189 _ _ ?_)))
                              refine WP_ifb (b := x190) rfl (fun c192 => ?_) (fun c192 => ?_)
                              · have hF := iteB_t c192 hF
                                have hR := Option.some.inj hF
                                subst hR
                                refine (WP_skip (thenQ_n (And.intro ?_ ?_)))
                                · repeat' (first | with_reducible exact Fr_refl | refine Fr_upd rfl ?_ | refine Fr_over rfl rfl ?_)
                                · exact ⟨(), (Sl_cons rfl Sl_nil), H.pick [] (by decide)⟩
                              · have hF := iteB_f c192 hF
                                refine WP_seq_k fun K193 hK193 => ?_
                                refine WP_region ?_
                                obtain ⟨x194, e195, hF⟩ := letO_some hF
                                refine RL_do rfl rfl (Do_as (Do_eqls (s1 := p0) (s2 := [114, 105, 115, 101, 115]) rfl rfl) (congrArg Value.bool e195)) ?_
                                refine RL_do rfl rfl (Do_assign (v := .bool x194) rfl) ?_
                                refine (RL_nil (thenQ_n (hK193 _ _ ?_)))
                                refine WP_ifb (b := x194) rfl (fun c196 => ?_) (fun c196 => ?_)
                                · have hF := iteB_t c196 hF
                                  have hR := Option.some.inj hF
                                  subst hR
                                  refine (WP_skip (thenQ_n (And.intro ?_ ?_)))
                                  · repeat' (first | with_reducible exact Fr_refl | refine Fr_upd rfl ?_ | refine Fr_over rfl rfl ?_)
                                  · exact ⟨(), (Sl_cons rfl Sl_nil), H.pick [] (by decide)⟩
                                · have hF := iteB_f c196 hF
                                  refine WP_region ?_
                                  obtain ⟨x197, e198, hF⟩ := letO_some hF
                                  refine RL_do rfl rfl (Do_as (Do_eqls (s1 := p0) (s2 := [115, 105, 110, 99, 101]) rfl rfl) (congrArg Value.bool e198)) ?_
                                  refine RL_do rfl rfl (Do_assign (v := .bool x197) rfl) ?_
                                  have hR := Option.some.inj hF
                                  subst hR
                                  refine (RL_nil (thenQ_n (And.intro ?_ ?_)))
                                  · repeat' (first | with_reducible exact Fr_refl | refine Fr_upd rfl ?_ | refine Fr_over rfl rfl ?_)
                                  · exact ⟨(), (Sl_cons rfl Sl_nil), H.pick [] (by decide)⟩
  · rintro _ ρ w135 H
    have hF := hK136
    refine WP_ifb (b := g134) rfl (fun c199 => ?_) (fun c199 => ?_)
    · have hF := iteB_t c199 hF
      refine WP_seq_k fun K200 hK200 => ?_
      refine WP_region ?_
      refine RL_do rfl rfl (Do_assign (v := .bool true) rfl) ?_
      refine (RL_nil (thenQ_n (hK200 _ _ ?_)))
      have hR := Option.some.inj hF
      subst hR
      refine (WP_ret (blockQ_r (thenQ_r (post1 (v1 := .bool true) rfl rfl ?_))))
      exact ⟨rfl, H.pick [] (by decide)⟩
    · have hF := iteB_f c199 hF
      refine (WP_skip (blockQ_n (thenQ_n (hK70 _ _ ?_))))
      refine WP_seq_k fun K201 hK201 => ?_
      refine WP_region ?_
      refine RL_do rfl rfl (Do_assign (v := .bool false) rfl) ?_
      refine (RL_nil (thenQ_n (hK201 _ _ ?_)))
      have hR := Option.some.inj hF
      subst hR
      refine (WP_ret (post1 (v1 := .bool false) rfl rfl ?_))
      exact ⟨rfl, H.pick [] (by decide)⟩
end Go.Proofs.YtbjhondbheijiaaGreat.L
namespace Go.Proofs.YtbjhondbheijiaaGreat.L
open Go.RowKit Go.OB Go.Lf
/- orangebox/event.nameByte -/
set_option maxHeartbeats 4000000 in
theorem F_event_nameByte_w (p0 : Int) (r : Bool) (hF : F_event_nameByte p0 = some r) (O S : List Nat) (w : World) (H : Hd O w w S []) :
    Calls Tryz.prog 68 ([.int .u8 p0] : List Value).toArray w fun e w' => e = .returned (.bool r) ∧ Hd O w w' S [] := by
  unfold F_event_nameByte at hF
  refine calls_of_WP 21 Tryz.func68 rfl rfl rfl ?_
  refine WP_seq_k fun K1 hK1 => ?_
  refine WP_region ?_
  refine RL_do rfl rfl (Do_assign (v := .bool false) rfl) ?_
  refine (RL_nil (thenQ_n (hK1 _ _ ?_)))
  obtain ⟨g28, hF, hK30⟩ := bindO_some hF
  refine WP_seqS [2, 3, 4, 5, 6, 7, 8, 9, 10, 11, 12, 13, 14, 15, 16, 17, 18, 19, 20] (fun (g : Unit) => [(2, .bool g28)]) (fun g wl => Hd O w wl S []) ?_ ?_
  · skip
    refine WP_region ?_
    refine RL_do rfl rfl (Do_move (v := .int .u8 p0) rfl) ?_
    obtain ⟨x31, e32, hF⟩ := letO_some hF
    refine RL_do rfl rfl (Do_as (Do_geq (a := p0) (b := 97) rfl rfl) (congrArg Value.bool e32)) ?_
    refine RL_splitb (b := x31) rfl rfl rfl (fun c33 => ?_) (fun c33 => ?_)
    · have hF := iteB_t c33 hF
      refine RL_do rfl rfl (Do_move (v := .int .u8 p0) rfl) ?_
      obtain ⟨x34, e35, hF⟩ := letO_some hF
      refine RL_do rfl rfl (Do_as (Do_leq (a := p0) (b := 122) rfl rfl) (congrArg Value.bool e35)) ?_
      refine RL_do rfl rfl (Do_pick_t (v := .bool x34) rfl rfl) ?_
      refine RL_splitb (b := x34) rfl rfl rfl (fun c36 => ?_) (fun c36 => ?_)
      · have hF := iteB_t c36 hF
        refine RL_off rfl rfl ?_
        refine RL_off rfl rfl ?_
        refine RL_off rfl rfl ?_
        refine RL_off rfl rfl ?_
        refine RL_off rfl rfl ?_
        refine RL_off rfl rfl ?_
        refine RL_do rfl rfl (Do_pick_t (v := .bool true) rfl rfl) ?_
        refine RL_do rfl rfl (Do_move (v := .bool true) rfl) ?_
        refine RL_off rfl rfl ?_
        refine RL_off rfl rfl ?_
        refine RL_do rfl rfl (Do_pick_t (v := .bool true) rfl rfl) ?_
        refine RL_do rfl rfl (Do_assign (v := .bool true) rfl) ?_
        have hR := Option.some.inj hF
        subst hR
        refine (RL_nil (thenQ_n (And.intro ?_ ?_)))
        · repeat' (first | with_reducible exact Fr_refl | refine Fr_upd rfl ?_ | refine Fr_over rfl rfl ?_)
        · exact ⟨(), (Sl_cons rfl Sl_nil), H.pick [] (by decide)⟩
      · have hF := iteB_f c36 hF
        refine RL_do rfl rfl (Do_move (v := .int .u8 p0) rfl) ?_
        obtain ⟨x37, e38, hF⟩ := letO_some hF
        refine RL_do rfl rfl (Do_as (Do_geq (a := p0) (b := 48) rfl rfl) (congrArg Value.bool e38)) ?_
        refine RL_splitb (b := x37) rfl rfl rfl (fun c39 => ?_) (fun c39 => ?_)
        · have hF := iteB_t c39 hF
          refine RL_do rfl rfl (Do_move (v := .int .u8 p0) rfl) ?_
          obtain ⟨x40, e41, hF⟩ := letO_some hF
          refine RL_do rfl rfl (Do_as (Do_leq (a := p0) (b := 57) rfl rfl) (congrArg Value.bool e41)) ?_
          refine RL_do rfl rfl (Do_pick_t (v := .bool x40) rfl rfl) ?_
          refine RL_do rfl rfl (Do_pick_f (v := .bool x40) rfl rfl) ?_
          refine RL_splitb (b := x40) rfl rfl rfl (fun c42 => ?_) (fun c42 => ?_)
          · have hF := iteB_t c42 hF
            refine RL_off rfl rfl ?_
            refine RL_off rfl rfl ?_
            refine RL_do rfl rfl (Do_pick_t (v := .bool true) rfl rfl) ?_
            refine RL_do rfl rfl (Do_assign (v := .bool true) rfl) ?_
            have hR := Option.some.inj hF
            subst hR
            refine (RL_nil (thenQ_n (And.intro ?_ ?_)))
            · repeat' (first | with_reducible exact Fr_refl | refine Fr_upd rfl ?_ | refine Fr_over rfl rfl ?_)
            · exact ⟨(), (Sl_cons rfl Sl_nil), H.pick [] (by decide)⟩
          · have hF := iteB_f c42 hF
            refine RL_do rfl rfl (Do_move (v := .int .u8 p0) rfl) ?_
            obtain ⟨x43, e44, hF⟩ := letO_some hF
            refine RL_do rfl rfl (Do_as (Do_eql (a := p0) (b := 45) rfl rfl) (congrArg Value.bool e44)) ?_
            refine RL_do rfl rfl (Do_pick_f (v := .bool x43) rfl rfl) ?_
            refine RL_do rfl rfl (Do_assign (v := .bool x43) rfl) ?_
            have hR := Option.some.inj hF
            subst hR
            refine (RL_nil (thenQ_n (And.intro ?_ ?_)))
            · repeat' (first | with_reducible exact Fr_refl | refine Fr_upd rfl ?_ | refine Fr_over rfl rfl ?_)
            · exact ⟨(), (Sl_cons rfl Sl_nil), H.pick [] (by decide)⟩
        · have hF := iteB_f c39 hF
          refine RL_off rfl rfl ?_
          refine RL_off rfl rfl ?_
          refine RL_do rfl rfl (Do_pick_f (v := .bool false) rfl rfl) ?_
          refine RL_do rfl rfl (Do_pick_f (v := .bool false) rfl rfl) ?_
          refine RL_do rfl rfl (Do_move (v := .bool false) rfl) ?_
          refine RL_do rfl rfl (Do_move (v := .int .u8 p0) rfl) ?_
          obtain ⟨x45, e46, hF⟩ := letO_some hF
          refine RL_do rfl rfl (Do_as (Do_eql (a := p0) (b := 45) rfl rfl) (congrArg Value.bool e46)) ?_
          refine RL_do rfl rfl (Do_pick_f (v := .bool x45) rfl rfl) ?_
          refine RL_do rfl rfl (Do_assign (v := .bool x45) rfl) ?_
          have hR := Option.some.inj hF
          subst hR
          refine (RL_nil (thenQ_n (And.intro ?_ ?_)))
          · repeat' (first | with_reducible exact Fr_refl | refine Fr_upd rfl ?_ | refine Fr_over rfl rfl ?_)
          · exact ⟨(), (Sl_cons rfl Sl_nil), H.pick [] (by decide)⟩
    · have hF := iteB_f c33 hF
      refine RL_off rfl rfl ?_
      refine RL_off rfl rfl ?_
      refine RL_do rfl rfl (Do_pick_f (v := .bool false) rfl rfl) ?_
      refine RL_do rfl rfl (Do_move (v := .bool false) rfl) ?_
      refine RL_do rfl rfl (Do_move (v := .int .u8 p0) rfl) ?_
      obtain ⟨x47, e48, hF⟩ := letO_some hF
      refine RL_do rfl rfl (Do_as (Do_geq (a := p0) (b := 48) rfl rfl) (congrArg Value.bool e48)) ?_
      refine RL_splitb (b := x47) rfl rfl rfl (fun c49 => ?_) (fun c49 => ?_)
      · have hF := iteB_t c49 hF
        refine RL_do rfl rfl (Do_move (v := .int .u8 p0) rfl) ?_
        obtain ⟨x50, e51, hF⟩ := letO_some hF
        refine RL_do rfl rfl (Do_as (Do_leq (a := p0) (b := 57) rfl rfl) (congrArg Value.bool e51)) ?_
        refine RL_do rfl rfl (Do_pick_t (v := .bool x50) rfl rfl) ?_
        refine RL_do rfl rfl (Do_pick_f (v := .bool x50) rfl rfl) ?_
        refine RL_splitb (b := x50) rfl rfl rfl (fun c52 => ?_) (fun c52 => ?_)
        · have hF := iteB_t c52 hF
          refine RL_off rfl rfl ?_
          refine RL_off rfl rfl ?_
          refine RL_do rfl rfl (Do_pick_t (v := .bool true) rfl rfl) ?_
          refine RL_do rfl rfl (Do_assign (v := .bool true) rfl) ?_
          have hR := Option.some.inj hF
          subst hR
          refine (RL_nil (thenQ_n (And.intro ?_ ?_)))
          · repeat' (first | with_reducible exact Fr_refl | refine Fr_upd rfl ?_ | refine Fr_over rfl rfl ?_)
          · exact ⟨(), (Sl_cons rfl Sl_nil), H.pick [] (by decide)⟩
        · have hF := iteB_f c52 hF
          refine RL_do rfl rfl (Do_move (v := .int .u8 p0) rfl) ?_
          obtain ⟨x53, e54, hF⟩ := letO_some hF
          refine RL_do rfl rfl (Do_as (Do_eql (a := p0) (b := 45) rfl rfl) (congrArg Value.bool e54)) ?_
          refine RL_do rfl rfl (Do_pick_f (v := .bool x53) rfl rfl) ?_
          refine RL_do rfl rfl (Do_assign (v := .bool x53) rfl) ?_
          have hR := Option.some.inj hF
          subst hR
          refine (RL_nil (thenQ_n (And.intro ?_ ?_)))
          · repeat' (first | with_reducible exact Fr_refl | refine Fr_upd rfl ?_ | refine Fr_over rfl rfl ?_)
          · exact ⟨(), (Sl_cons rfl Sl_nil), H.pick [] (by decide)⟩
      · have hF := iteB_f c49 hF
        refine RL_off rfl rfl ?_
        refine RL_off rfl rfl ?_
        refine RL_do rfl rfl (Do_pick_f (v := .bool false) rfl rfl) ?_
        refine RL_do rfl rfl (Do_pick_f (v := .bool false) rfl rfl) ?_
        refine RL_do rfl rfl (Do_move (v := .bool false) rfl) ?_
        refine RL_do rfl rfl (Do_move (v := .int .u8 p0) rfl) ?_
        obtain ⟨x55, e56, hF⟩ := letO_some hF
        refine RL_do rfl rfl (Do_as (Do_eql (a := p0) (b := 45) rfl rfl) (congrArg Value.bool e56)) ?_
        refine RL_do rfl rfl (Do_pick_f (v := .bool x55) rfl rfl) ?_
        refine RL_do rfl rfl (Do_assign (v := .bool x55) rfl) ?_
        have hR := Option.some.inj hF
        subst hR
        refine (RL_nil (thenQ_n (And.intro ?_ ?_)))
        · repeat' (first | with_reducible exact Fr_refl | refine Fr_upd rfl ?_ | refine Fr_over rfl rfl ?_)
        · exact ⟨(), (Sl_cons rfl Sl_nil), H.pick [] (by decide)⟩
  · rintro _ ρ w29 H
    have hF := hK30
    have hR := Option.some.inj hF
    subst hR
    refine (WP_ret (post1 (v1 := .bool g28) rfl rfl ?_))
    exact ⟨rfl, H.pick [] (by decide)⟩
end Go.Proofs.YtbjhondbheijiaaGreat.L
namespace Go.Proofs.YtbjhondbheijiaaGreat.L
open Go.RowKit Go.OB Go.Lf
/- orangebox/event.isName -/
set_option maxHeartbeats 4000000 in
theorem F_event_isName_w (p0 : Str) (r : Bool) (hF : F_event_isName p0 = some r) (O S : List Nat) (w : World) (H : Hd O w w S []) :
    Calls Tryz.prog 46 ([.string (bs p0)] : List Value).toArray w fun e w' => e = .returned (.bool r) ∧ Hd O w w' S [] := by
  unfold F_event_isName at hF
  refine calls_of_WP 33 Tryz.func46 rfl rfl rfl ?_
  refine WP_seq_k fun K1 hK1 => ?_
  refine WP_region ?_
  refine RL_do rfl rfl (Do_assign (v := .bool false) rfl) ?_
  refine (RL_nil (thenQ_n (hK1 _ _ ?_)))
  refine WP_seq_k fun K32 hK32 => ?_
  obtain ⟨g58, hF, hK60⟩ := bindO_some hF
  refine WP_seqS [4, 5, 6, 7, 8, 9, 10, 11, 12, 13, 14, 15, 16, 17, 18, 19, 20, 21] (fun (g : Unit) => [(21, .bool g58)]) (fun g wl => Hd O w wl S []) ?_ ?_
  · skip
    refine WP_region ?_
    refine RL_do rfl rfl (Do_move (v := .string (bs p0)) rfl) ?_
    obtain ⟨x61, e62, hF⟩ := letO_some hF
    refine RL_do rfl rfl (Do_as (Do_slen (s1 := p0) u9 rfl) (congrArg (Value.int .i64) e62)) ?_
    have H63 := H
    obtain ⟨x64, e65, hF⟩ := bindO_some hF
    refine RL_call rfl rfl (DoC_func en66 rfl) (F_event_within_w x61 1 30 _ e65 _ _ _ (H.enter [] [] (by decide) rfl)) ?_
    rintro _ w66 ⟨rfl, G67⟩
    have H := H63.step (G67.only : Only [] _ _)
    refine ⟨_, rfl, ?_⟩
    obtain ⟨x68, e69, hF⟩ := letO_some hF
    refine RL_do rfl rfl (Do_as (Do_not (p := x64) rfl) (congrArg Value.bool e69)) ?_
    refine RL_splitb (b := x68) rfl rfl rfl (fun c70 => ?_) (fun c70 => ?_)
    · have hF := iteB_t c70 hF
      refine RL_off rfl rfl ?_
      refine RL_off rfl rfl ?_
      refine RL_off rfl rfl ?_
      refine RL_do rfl rfl (Do_pick_t (v := .bool true) rfl rfl) ?_
      refine RL_do rfl rfl (Do_move (v := .bool true) rfl) ?_
      refine RL_off rfl rfl ?_
      refine RL_off rfl rfl ?_
      refine RL_off rfl rfl ?_
      refine RL_do rfl rfl (Do_pick_t (v := .bool true) rfl rfl) ?_
      refine RL_do rfl rfl (Do_move (v := .bool true) rfl) ?_
      refine RL_off rfl rfl ?_
      refine RL_off rfl rfl ?_
      refine RL_do rfl rfl (Do_pick_t (v := .bool true) rfl rfl) ?_
      have hR := Option.some.inj hF
      subst hR
      refine (RL_nil (thenQ_n (And.intro ?_ ?_)))
      · repeat' (first | with_reducible exact Fr_refl | refine Fr_upd rfl ?_ | refine Fr_over rfl rfl ?_)
      · exact ⟨(), (Sl_cons rfl Sl_nil), H.pick [] (by decide)⟩
    · have hF := iteB_f c70 hF
      refine RL_do rfl rfl (Do_move (v := .string (bs p0)) rfl) ?_
      obtain ⟨x71, e72, hF⟩ := bindO_some hF
      refine RL_do rfl rfl (Do_sidx (s1 := p0) (q := 0) u9 rfl rfl e72) ?_
      obtain ⟨x73, e74, hF⟩ := letO_some hF
      refine RL_do rfl rfl (Do_as (Do_lss (a := x71) (b := 97) rfl rfl) (congrArg Value.bool e74)) ?_
      refine RL_do rfl rfl (Do_pick_f (v := .bool x73) rfl rfl) ?_
      refine RL_splitb (b := x73) rfl rfl rfl (fun c75 => ?_) (fun c75 => ?_)
      · have hF := iteB_t c75 hF
        refine RL_off rfl rfl ?_
        refine RL_off rfl rfl ?_
        refine RL_off rfl rfl ?_
        refine RL_do rfl rfl (Do_pick_t (v := .bool true) rfl rfl) ?_
        refine RL_do rfl rfl (Do_move (v := .bool true) rfl) ?_
        refine RL_off rfl rfl ?_
        refine RL_off rfl rfl ?_
        refine RL_do rfl rfl (Do_pick_t (v := .bool true) rfl rfl) ?_
        have hR := Option.some.inj hF
        subst hR
        refine (RL_nil (thenQ_n (And.intro ?_ ?_)))
        · repeat' (first | with_reducible exact Fr_refl | refine Fr_upd rfl ?_ | refine Fr_over rfl rfl ?_)
        · exact ⟨(), (Sl_cons rfl Sl_nil), H.pick [] (by decide)⟩
      · have hF := iteB_f c75 hF
        refine RL_do rfl rfl (Do_move (v := .string (bs p0)) rfl) ?_
        obtain ⟨x76, e77, hF⟩ := bindO_some hF
        refine RL_do rfl rfl (Do_sidx (s1 := p0) (q := 0) u9 rfl rfl e77) ?_
        obtain ⟨x78, e79, hF⟩ := letO_some hF
        refine RL_do rfl rfl (Do_as (Do_gtr (a := x76) (b := 122) rfl rfl) (congrArg Value.bool e79)) ?_
        refine RL_do rfl rfl (Do_pick_f (v := .bool x78) rfl rfl) ?_
        refine RL_splitb (b := x78) rfl rfl rfl (fun c80 => ?_) (fun c80 => ?_)
        · have hF := iteB_t c80 hF
          refine RL_off rfl rfl ?_
          refine RL_off rfl rfl ?_
          refine RL_do rfl rfl (Do_pick_t (v := .bool true) rfl rfl) ?_
          have hR := Option.some.inj hF
          subst hR
          refine (RL_nil (thenQ_n (And.intro ?_ ?_)))
          · repeat' (first | with_reducible exact Fr_refl | refine Fr_upd rfl ?_ | refine Fr_over rfl rfl ?_)
          · exact ⟨(), (Sl_cons rfl Sl_nil), H.pick [] (by decide)⟩
        · have hF := iteB_f c80 hF
          refine RL_do rfl rfl (Do_move (v := .string (bs p0)) rfl) ?_
          have H81 := H
          obtain ⟨x82, e83, hF⟩ := bindO_some hF
          refine RL_call rfl rfl (DoC_func en67 rfl) (F_event_isWord_w p0 _ e83 _ _ _ (H.enter [] [] (by decide) rfl)) ?_
          rintro _ w84 ⟨rfl, G85⟩
          have H := H81.step (G85.only : Only [] _ _)
          refine ⟨_, rfl, ?_⟩
          refine RL_do rfl rfl (Do_pick_f (v := .bool x82) rfl rfl) ?_
          have hR := Option.some.inj hF
          subst hR
          refine (RL_nil (thenQ_n (And.intro ?_ ?_)))
          · repeat' (first | with_reducible exact Fr_refl | refine Fr_upd rfl ?_ | refine Fr_over rfl rfl ?_)
          · exact ⟨(), (Sl_cons rfl Sl_nil), H.pick [] (by decide)⟩
  · rintro _ ρ w59 H
    have hF := hK60
    refine WP_ifb (b := g58) rfl (fun c86 => ?_) (fun c86 => ?_)
    · have hF := iteB_t c86 hF
      refine WP_seq_k fun K87 hK87 => ?_
      refine WP_region ?_
      refine RL_do rfl rfl (Do_assign (v := .bool false) rfl) ?_
      refine (RL_nil (thenQ_n (hK87 _ _ ?_)))
      have hR := Option.some.inj hF
      subst hR
      refine (WP_ret (thenQ_r (post1 (v1 := .bool false) rfl rfl ?_)))
      exact ⟨rfl, H.pick [] (by decide)⟩
    · have hF := iteB_f c86 hF
      refine (WP_skip (thenQ_n (hK32 _ _ ?_)))
      obtain ⟨k169, ek170, hF⟩ := joinO_some hF
      refine WP_seqS [2, 3, 22, 23, 24, 25, 26, 27, 28, 29, 30, 31, 32] (fun (g : Unit) => []) (fun g wl => Hd O w wl S [] ∧ k169 () = some r) ?_ ?_
      · skip
        refine WP_seq_k fun K171 hK171 => ?_
        refine WP_region ?_
        refine RL_do rfl rfl (Do_move (v := .string (bs p0)) rfl) ?_
        obtain ⟨x172, e173, hF⟩ := letO_some hF
        refine RL_do rfl rfl (Do_as (Do_slen (s1 := p0) u9 rfl) (congrArg (Value.int .i64) e173)) ?_
        refine RL_do rfl rfl (Do_move (v := .int .i64 0) rfl) ?_
        refine (RL_nil (thenQ_n (hK171 _ _ ?_)))
        refine WP_block ?_
        unfold F_event_isName_L1 at hF
        obtain ⟨B246, n247, eB248, hF⟩ := loopO_some hF
        refine WP_loopS [2, 3, 24, 25, 26, 27, 28, 29, 30, 31, 32] (fun (g : Nat × Int) => [(24, .int .i64 g.2)]) (fun g wl => Hd O w wl S [] ∧ loopN B246 g.1 g.2 = some r) (fun g => g.1) (n247, 0) (Sl_cons rfl Sl_nil) ⟨H.pick [] (by decide), hF⟩ ?_
        clear H hF
        rintro ⟨n247, g245⟩ ρ w250 ⟨H, hF⟩
        obtain ⟨n251, rfl, hF⟩ := loopN_pos hF
        have hF := loop_body eB248 hF
        refine WP_seq_k fun K252 hK252 => ?_
        refine WP_region ?_
        obtain ⟨x253, e254, hF⟩ := letO_some hF
        refine RL_do rfl rfl (Do_as (Do_lss (a := g245) (b := x172) rfl rfl) (congrArg Value.bool e254)) ?_
        refine (RL_nil (thenQ_n (hK252 _ _ ?_)))
        refine WP_seq_k fun K256 hK256 => ?_
        refine WP_ifb (b := x253) rfl (fun c257 => ?_) (fun c257 => ?_)
        · have hF := iteB_t c257 hF
          refine (WP_skip (thenQ_n (hK256 _ _ ?_)))
          refine WP_seq_k fun K271 hK271 => ?_
          refine WP_block ?_
          refine WP_seq_k fun K272 hK272 => ?_
          refine WP_region ?_
          refine RL_do rfl rfl (Do_move (v := .int .i64 g245) rfl) ?_
          refine RL_do rfl rfl (Do_assign (v := .int .i64 g245) rfl) ?_
          refine (RL_nil (thenQ_n (hK272 _ _ ?_)))
          refine WP_seq_k fun K273 hK273 => ?_
          refine WP_region ?_
          refine RL_do rfl rfl (Do_move (v := .string (bs p0)) rfl) ?_
          refine RL_do rfl rfl (Do_move (v := .int .i64 g245) rfl) ?_
          obtain ⟨x274, e275, hF⟩ := bindO_some hF
          refine RL_do rfl rfl (Do_sidx (s1 := p0) (q := g245) u9 rfl rfl e275) ?_
          have H276 := H
          obtain ⟨x277, e278, hF⟩ := bindO_some hF
          refine RL_call rfl rfl (DoC_func en68 rfl) (F_event_nameByte_w x274 _ e278 _ _ _ (H.enter [] [] (by decide) rfl)) ?_
          rintro _ w279 ⟨rfl, G280⟩
          have H := H276.step (G280.only : Only [] _ _)
          refine ⟨_, rfl, ?_⟩
          obtain ⟨x281, e282, hF⟩ := letO_some hF
          refine RL_do rfl rfl (Do_as (Do_not (p := x277) rfl) (congrArg Value.bool e282)) ?_
          refine (RL_nil (thenQ_n (hK273 _ _ ?_)))
          refine WP_ifb (b := x281) rfl (fun c283 => ?_) (fun c283 => ?_)
          · have hF := iteB_t c283 hF
            refine WP_seq_k fun K284 hK284 => ?_
            refine WP_region ?_
            refine RL_do rfl rfl (Do_assign (v := .bool false) rfl) ?_
            refine (RL_nil (thenQ_n (hK284 _ _ ?_)))
            have hR := Option.some.inj hF
            subst hR
            refine (WP_ret (blockQ_r (thenQ_r (thenQ_r (blockQ_r (thenQ_r (post1 (v1 := .bool false) rfl rfl ?_)))))))
            exact ⟨rfl, H.pick [] (by decide)⟩
          · have hF := iteB_f c283 hF
            refine (WP_skip (blockQ_n (thenQ_n (hK271 _ _ ?_))))
            refine WP_region ?_
            obtain ⟨x285, e286, hF⟩ := letO_some hF
            refine RL_do rfl rfl (Do_add (a := g245) (b := 1) rfl rfl e286) ?_
            refine RL_do rfl rfl (Do_move (v := .int .i64 x285) rfl) ?_
            refine (RL_nil (thenQ_n (And.intro ?_ ?_)))
            · repeat' (first | with_reducible exact Fr_refl | refine Fr_upd rfl ?_ | refine Fr_over rfl rfl ?_)
            · exact ⟨(n251, x285), (Sl_cons rfl Sl_nil), ⟨H.pick [] (by decide), hF⟩, Nat.lt_succ_self _⟩
        · have hF := iteB_f c257 hF
          refine (WP_exit (thenQ_x (thenQ_x (blockQ_eq (thenQ_n (And.intro ?_ ?_))))))
          · repeat' (first | with_reducible exact Fr_refl | refine Fr_upd rfl ?_ | refine Fr_over rfl rfl ?_)
          · exact ⟨(), Sl_nil, ⟨H.pick [] (by decide), hF⟩⟩
      · rintro _ ρ w168 ⟨H, hF⟩
        have hF := join_body ek170 hF
        refine WP_seq_k fun K287 hK287 => ?_
        refine WP_region ?_
        refine RL_do rfl rfl (Do_assign (v := .bool true) rfl) ?_
        refine (RL_nil (thenQ_n (hK287 _ _ ?_)))
        have hR := Option.some.inj hF
        subst hR
        refine (WP_ret (post1 (v1 := .bool true) rfl rfl ?_))
        exact ⟨rfl, H.pick [] (by decide)⟩
end Go.Proofs.YtbjhondbheijiaaGreat.L
namespace Go.Proofs.YtbjhondbheijiaaGreat.L
open Go.RowKit Go.OB Go.Lf
/- orangebox/event.IsName -/
set_option maxHeartbeats 4000000 in
theorem F_event_IsName_w (p0 : Str) (r : Bool) (hF : F_event_IsName p0 = some r) (O S : List Nat) (w : World) (H : Hd O w w S []) :
    Calls Tryz.prog 24 ([.string (bs p0)] : List Value).toArray w fun e w' => e = .returned (.bool r) ∧ Hd O w w' S [] := by
  unfold F_event_IsName at hF
  refine calls_of_WP 5 Tryz.func24 rfl rfl rfl ?_
  refine WP_seq_k fun K1 hK1 => ?_
  refine WP_region ?_
  refine RL_do rfl rfl (Do_assign (v := .bool false) rfl) ?_
  refine (RL_nil (thenQ_n (hK1 _ _ ?_)))
  refine WP_seq_k fun K2 hK2 => ?_
  refine WP_region ?_
  refine RL_do rfl rfl (Do_move (v := .string (bs p0)) rfl) ?_
  have H3 := H
  obtain ⟨x4, e5, hF⟩ := bindO_some hF
  refine RL_call rfl rfl (DoC_func en46 rfl) (F_event_isName_w p0 _ e5 _ _ _ (H.enter [] [] (by decide) rfl)) ?_
  rintro _ w6 ⟨rfl, G7⟩
  have H := H3.step (G7.only : Only [] _ _)
  refine ⟨_, rfl, ?_⟩
  refine RL_do rfl rfl (Do_assign (v := .bool x4) rfl) ?_
  refine (RL_nil (thenQ_n (hK2 _ _ ?_)))
  have hR := Option.some.inj hF
  subst hR
  refine (WP_ret (post1 (v1 := .bool x4) rfl rfl ?_))
  exact ⟨rfl, H.pick [] (by decide)⟩
end Go.Proofs.YtbjhondbheijiaaGreat.L
namespace Go.Proofs.YtbjhondbheijiaaGreat.L
open Go.RowKit Go.OB Go.Lf
/- orangebox/event.CheckTracks$1 -/
set_option maxHeartbeats 4000000 in
theorem F_event_CheckTracks_1_w (p0 : Track) (c0 : Track) (v1 : Value) (b3 : Nat) (v4 : Value) (r : Bool) (hF : F_event_CheckTracks_1 p0 c0 = some r) (O S : List Nat) (w : World) (H : Hd O w w S [.blk b3 [.string (bs c0.Name), .int .i64 c0.Series.Den, v4, .int .i64 c0.Long] 74, .fz (.sl rSample v1 p0.Series.Samples), .fz (.sl rSample v4 c0.Series.Samples)]) :
    Calls Tryz.prog 86 ([.agg [.string (bs p0.Name), .int .i64 p0.Series.Den, v1, .int .i64 p0.Long].toArray, .pointer (some ⟨b3, 0, none⟩)] : List Value).toArray w fun e w' => e = .returned (.bool r) ∧ Hd O w w' S [.blk b3 [.string (bs c0.Name), .int .i64 c0.Series.Den, v4, .int .i64 c0.Long] 74] := by
  unfold F_event_CheckTracks_1 at hF
  refine calls_of_WP 9 Tryz.func86 rfl rfl rfl ?_
  refine WP_seq_k fun K7 hK7 => ?_
  refine WP_region ?_
  refine RL_ex rfl rfl (Lx_box (cs := [.string (bs p0.Name), .int .i64 p0.Series.Den, v1, .int .i64 p0.Long]) rfl H) ?_
  rintro _ w10 ⟨b8, rfl, H⟩
  refine RL_do rfl rfl (Do_assign (v := .bool false) rfl) ?_
  refine (RL_nil (thenQ_n (hK7 _ _ ?_)))
  refine WP_seq_k fun K11 hK11 => ?_
  refine WP_region ?_
  refine RL_do rfl rfl (fa74_0 rfl) ?_
  refine RL_do rfl rfl (Do_load one9 rfl (Cells.get (Blk.cells (H.item (i := 3) rfl)) (i := 0) rfl)) ?_
  refine RL_do rfl rfl (fa74_0 rfl) ?_
  refine RL_do rfl rfl (Do_load one9 rfl (Cells.get (Blk.cells (H.item (i := 0) rfl)) (i := 0) rfl)) ?_
  obtain ⟨x12, e13, hF⟩ := letO_some hF
  refine RL_do rfl rfl (Do_as (Do_eqls (s1 := p0.Name) (s2 := c0.Name) rfl rfl) (congrArg Value.bool e13)) ?_
  refine RL_do rfl rfl (Do_assign (v := .bool x12) rfl) ?_
  refine (RL_nil (thenQ_n (hK11 _ _ ?_)))
  have hR := Option.some.inj hF
  subst hR
  refine (WP_ret (post1 (v1 := .bool x12) rfl rfl ?_))
  exact ⟨rfl, H.pick [0] (by decide)⟩
end Go.Proofs.YtbjhondbheijiaaGreat.L
namespace Go.Proofs.YtbjhondbheijiaaGreat.L
open Go.RowKit Go.OB Go.Lf
/- slices.IndexFunc[[]orangebox/api.Track,orangebox/api.Track]@orangebox/event.CheckTracks$1 -/
set_option maxHeartbeats 4000000 in
theorem F_slices_IndexFunc___api_Track_api_Track__event_CheckTracks_1_w (p0 : List Track) (p1c0 : Track) (v1 : Value) (b3 : Nat) (v4 : Value) (r : Int) (hF : F_slices_IndexFunc___api_Track_api_Track__event_CheckTracks_1 p0 p1c0 = some r) (O S : List Nat) (w : World) (H : Hd O w w S [.blk b3 [.string (bs p1c0.Name), .int .i64 p1c0.Series.Den, v4, .int .i64 p1c0.Long] 74, .fz (.sl rTrack v1 p0), .fz (.sl rSample v4 p1c0.Series.Samples)]) :
    Calls Tryz.prog 96 ([v1, .func (.func 86) #[] [.pointer (some ⟨b3, 0, none⟩)].toArray] : List Value).toArray w fun e w' => e = .returned (.int .i64 r) ∧ Hd O w w' S [.blk b3 [.string (bs p1c0.Name), .int .i64 p1c0.Series.Den, v4, .int .i64 p1c0.Long] 74] := by
  unfold F_slices_IndexFunc___api_Track_api_Track__event_CheckTracks_1 at hF
  refine calls_of_WP 19 Tryz.func96 rfl rfl rfl ?_
  refine WP_seq_k fun K7 hK7 => ?_
  refine WP_region ?_
  refine RL_do rfl rfl (Do_assign (v := .int .i64 0) rfl) ?_
  refine (RL_nil (thenQ_n (hK7 _ _ ?_)))
  obtain ⟨k132, ek133, hF⟩ := joinO_some hF
  refine WP_seqS [4, 5, 6, 7, 8, 9, 10, 11, 12, 13, 14, 15, 16, 17, 18] (fun (g : Unit) => []) (fun g wl => Hd O w wl S [.blk b3 [.string (bs p1c0.Name), .int .i64 p1c0.Series.Den, v4, .int .i64 p1c0.Long] 74, .fz (.sl rSample v4 p1c0.Series.Samples)] ∧ k132 () = some r) ?_ ?_
  · skip
    refine WP_seq_k fun K134 hK134 => ?_
    refine WP_region ?_
    refine RL_do rfl rfl (Do_move (v := v1) rfl) ?_
    obtain ⟨x135, e136, hF⟩ := letO_some hF
    obtain ⟨a137, c138, q139⟩ := SlF.len ((H.item (i := 1) rfl))
    refine RL_do rfl rfl (Do_as (Do_len u64 q139) (congrArg (Value.int .i64) e136)) ?_
    refine RL_do rfl rfl (Do_move (v := .int .i64 0) rfl) ?_
    refine (RL_nil (thenQ_n (hK134 _ _ ?_)))
    refine WP_block ?_
    unfold F_slices_IndexFunc___api_Track_api_Track__event_CheckTracks_1_L1 at hF
    obtain ⟨B252, n253, eB254, hF⟩ := loopO_some hF
    refine WP_loopS [4, 5, 8, 9, 10, 11, 12, 13, 14, 15, 16, 17, 18] (fun (g : Nat × Int) => [(8, .int .i64 g.2)]) (fun g wl => Hd O w wl S [.blk b3 [.string (bs p1c0.Name), .int .i64 p1c0.Series.Den, v4, .int .i64 p1c0.Long] 74, .fz (.sl rSample v4 p1c0.Series.Samples), .fz (.sl rTrack v1 p0)] ∧ loopN B252 g.1 g.2 = some r) (fun g => g.1) (n253, 0) (Sl_cons rfl Sl_nil) ⟨H.pick [0, 2, 1] (by decide), hF⟩ ?_
    clear H hF
    rintro ⟨n253, g251⟩ ρ w256 ⟨H, hF⟩
    obtain ⟨n257, rfl, hF⟩ := loopN_pos hF
    have hF := loop_body eB254 hF
    refine WP_seq_k fun K258 hK258 => ?_
    refine WP_region ?_
    obtain ⟨x259, e260, hF⟩ := letO_some hF
    refine RL_do rfl rfl (Do_as (Do_lss (a := g251) (b := x135) rfl rfl) (congrArg Value.bool e260)) ?_
    refine (RL_nil (thenQ_n (hK258 _ _ ?_)))
    refine WP_seq_k fun K262 hK262 => ?_
    refine WP_ifb (b := x259) rfl (fun c263 => ?_) (fun c263 => ?_)
    · have hF := iteB_t c263 hF
      refine (WP_skip (thenQ_n (hK262 _ _ ?_)))
      refine WP_seq_k fun K287 hK287 => ?_
      refine WP_block ?_
      refine WP_seq_k fun K288 hK288 => ?_
      refine WP_region ?_
      refine RL_do rfl rfl (Do_move (v := .int .i64 g251) rfl) ?_
      refine RL_do rfl rfl (Do_assign (v := .int .i64 g251) rfl) ?_
      refine (RL_nil (thenQ_n (hK288 _ _ ?_)))
      refine WP_seq_k fun K289 hK289 => ?_
      refine WP_region ?_
      refine RL_do rfl rfl (Do_move (v := .func (.func 86) #[] [.pointer (some ⟨b3, 0, none⟩)].toArray) rfl) ?_
      refine RL_do rfl rfl (Do_move (v := v1) rfl) ?_
      refine RL_do rfl rfl (Do_move (v := .int .i64 g251) rfl) ?_
      obtain ⟨x290, e291, hF⟩ := bindO_some hF
      obtain ⟨b292, o293, c294, cs295, q296, h299, h297, h298, h300⟩ := rd_at (H.item (i := 2) rfl) e291
      obtain ⟨v301, rfl, h302⟩ := rTrack_open h299
      have H := H.fzs [.at b292 (o293 + g251.toNat * 4) _, .sl rSample v301 x290.Series.Samples] ⟨⟨h297, h298, h300⟩, h302, trivial⟩
      refine RL_do rfl rfl (Do_idx u64 sz74 q296 rfl (at_some e291).1 (at_some e291).2.1 rfl rfl) ?_
      refine RL_do rfl rfl (Do_as (Do_loads (cs := [.string (bs x290.Name), .int .i64 x290.Series.Den, v301, .int .i64 x290.Long]) agg74 rfl sz74 rfl (H.item (i := 3) rfl).2.2) rfl) ?_
      obtain ⟨x305, e306, hF⟩ := bindO_some hF
      refine RL_call rfl rfl (DoC_clo en86 rfl rfl) (F_event_CheckTracks_1_w x290 p1c0 v301 b3 v4 _ e306 _ _ _ (H.enter [0] [4, 1] (by decide) rfl)) ?_
      rintro _ w307 ⟨rfl, G308⟩
      have H : Hd O _ w307 _ [.fz (.sl rSample v4 p1c0.Series.Samples), .fz (.sl rTrack v1 p0), .fz (.at b292 (o293 + g251.toNat * 4) [.string (bs x290.Name), .int .i64 x290.Series.Den, v301, .int .i64 x290.Long]), .fz (.sl rSample v301 x290.Series.Samples), .blk b3 [.string (bs p1c0.Name), .int .i64 p1c0.Series.Den, v4, .int .i64 p1c0.Long] 74] := H.back [0] [4, 1] rfl G308
      refine ⟨_, rfl, ?_⟩
      refine (RL_nil (thenQ_n (hK289 _ _ ?_)))
      refine WP_ifb (b := x305) rfl (fun c309 => ?_) (fun c309 => ?_)
      · have hF := iteB_t c309 hF
        refine WP_seq_k fun K310 hK310 => ?_
        refine WP_region ?_
        refine RL_do rfl rfl (Do_move (v := .int .i64 g251) rfl) ?_
        refine RL_do rfl rfl (Do_assign (v := .int .i64 g251) rfl) ?_
        refine (RL_nil (thenQ_n (hK310 _ _ ?_)))
        have hR := Option.some.inj hF
        subst hR
        refine (WP_ret (blockQ_r (thenQ_r (thenQ_r (blockQ_r (thenQ_r (post1 (v1 := .int .i64 g251) rfl rfl ?_)))))))
        exact ⟨rfl, H.pick [4] (by decide)⟩
      · have hF := iteB_f c309 hF
        refine (WP_skip (blockQ_n (thenQ_n (hK287 _ _ ?_))))
        refine WP_region ?_
        obtain ⟨x311, e312, hF⟩ := letO_some hF
        refine RL_do rfl rfl (Do_add (a := g251) (b := 1) rfl rfl e312) ?_
        refine RL_do rfl rfl (Do_move (v := .int .i64 x311) rfl) ?_
        refine (RL_nil (thenQ_n (And.intro ?_ ?_)))
        · repeat' (first | with_reducible exact Fr_refl | refine Fr_upd rfl ?_ | refine Fr_over rfl rfl ?_)
        · exact ⟨(n257, x311), (Sl_cons rfl Sl_nil), ⟨H.pick [4, 0, 1] (by decide), hF⟩, Nat.lt_succ_self _⟩
    · have hF := iteB_f c263 hF
      refine (WP_exit (thenQ_x (thenQ_x (blockQ_eq (thenQ_n (And.intro ?_ ?_))))))
      · repeat' (first | with_reducible exact Fr_refl | refine Fr_upd rfl ?_ | refine Fr_over rfl rfl ?_)
      · exact ⟨(), Sl_nil, ⟨H.pick [0, 1] (by decide), hF⟩⟩
  · rintro _ ρ w131 ⟨H, hF⟩
    have hF := join_body ek133 hF
    refine WP_seq_k fun K313 hK313 => ?_
    refine WP_region ?_
    refine RL_do rfl rfl (Do_assign (v := .int .i64 (-1)) rfl) ?_
    refine (RL_nil (thenQ_n (hK313 _ _ ?_)))
    have hR := Option.some.inj hF
    subst hR
    refine (WP_ret (post1 (v1 := .int .i64 (-1)) rfl rfl ?_))
    exact ⟨rfl, H.pick [0] (by decide)⟩
end Go.Proofs.YtbjhondbheijiaaGreat.L
namespace Go.Proofs.YtbjhondbheijiaaGreat.L
open Go.RowKit Go.OB Go.Lf
/- slices.ContainsFunc[[]orangebox/api.Track,orangebox/api.Track]@orangebox/event.CheckTracks$1 -/
set_option maxHeartbeats 4000000 in
theorem F_slices_ContainsFunc___api_Track_api_Track__event_CheckTracks_1_w (p0 : List Track) (p1c0 : Track) (v1 : Value) (b3 : Nat) (v4 : Value) (r : Bool) (hF : F_slices_ContainsFunc___api_Track_api_Track__event_CheckTracks_1 p0 p1c0 = some r) (O S : List Nat) (w : World) (H : Hd O w w S [.blk b3 [.string (bs p1c0.Name), .int .i64 p1c0.Series.Den, v4, .int .i64 p1c0.Long] 74, .fz (.sl rTrack v1 p0), .fz (.sl rSample v4 p1c0.Series.Samples)]) :
    Calls Tryz.prog 85 ([v1, .func (.func 86) #[] [.pointer (some ⟨b3, 0, none⟩)].toArray] : List Value).toArray w fun e w' => e = .returned (.bool r) ∧ Hd O w w' S [.blk b3 [.string (bs p1c0.Name), .int .i64 p1c0.Series.Den, v4, .int .i64 p1c0.Long] 74] := by
  unfold F_slices_ContainsFunc___api_Track_api_Track__event_CheckTracks_1 at hF
  refine calls_of_WP 9 Tryz.func85 rfl rfl rfl ?_
  refine WP_seq_k fun K7 hK7 => ?_
  refine WP_region ?_
  refine RL_do rfl rfl (Do_assign (v := .bool false) rfl) ?_
  refine (RL_nil (thenQ_n (hK7 _ _ ?_)))
  refine WP_seq_k fun K8 hK8 => ?_
  refine WP_region ?_
  refine RL_do rfl rfl (Do_move (v := v1) rfl) ?_
  refine RL_do rfl rfl (Do_move (v := .func (.func 86) #[] [.pointer (some ⟨b3, 0, none⟩)].toArray) rfl) ?_
  obtain ⟨x9, e10, hF⟩ := bindO_some hF
  refine RL_call rfl rfl (DoC_func en96 rfl) (F_slices_IndexFunc___api_Track_api_Track__event_CheckTracks_1_w p0 p1c0 v1 b3 v4 _ e10 _ _ _ (H.enter [0] [1, 2] (by decide) rfl)) ?_
  rintro _ w11 ⟨rfl, G12⟩
  have H : Hd O _ w11 _ [.fz (.sl rTrack v1 p0), .fz (.sl rSample v4 p1c0.Series.Samples), .blk b3 [.string (bs p1c0.Name), .int .i64 p1c0.Series.Den, v4, .int .i64 p1c0.Long] 74] := H.back [0] [1, 2] rfl G12
  refine ⟨_, rfl, ?_⟩
  obtain ⟨x13, e14, hF⟩ := letO_some hF
  refine RL_do rfl rfl (Do_as (Do_geq (a := x9) (b := 0) rfl rfl) (congrArg Value.bool e14)) ?_
  refine RL_do rfl rfl (Do_assign (v := .bool x13) rfl) ?_
  refine (RL_nil (thenQ_n (hK8 _ _ ?_)))
  have hR := Option.some.inj hF
  subst hR
  refine (WP_ret (post1 (v1 := .bool x13) rfl rfl ?_))
  exact ⟨rfl, H.pick [2] (by decide)⟩
end Go.Proofs.YtbjhondbheijiaaGreat.L
namespace Go.Proofs.YtbjhondbheijiaaGreat.L
open Go.RowKit Go.OB Go.Lf
/- orangebox/series.within -/
set_option maxHeartbeats 4000000 in
theorem F_series_within_w (p0 : Int) (p1 : Int) (p2 : Int) (r : Bool) (hF : F_series_within p0 p1 p2 = some r) (O S : List Nat) (w : World) (H : Hd O w w S []) :
    Calls Tryz.prog 100 ([.int .i64 p0, .int .i64 p1, .int .i64 p2] : List Value).toArray w fun e w' => e = .returned (.bool r) ∧ Hd O w w' S [] := by
  unfold F_series_within at hF
  refine calls_of_WP 15 Tryz.func100 rfl rfl rfl ?_
  refine WP_seq_k fun K1 hK1 => ?_
  refine WP_region ?_
  refine RL_do rfl rfl (Do_assign (v := .bool false) rfl) ?_
  refine (RL_nil (thenQ_n (hK1 _ _ ?_)))
  obtain ⟨g7, hF, hK9⟩ := bindO_some hF
  refine WP_seqS [6, 7, 8, 9, 10, 11, 12, 13, 14] (fun (g : Unit) => [(6, .bool g7)]) (fun g wl => Hd O w wl S []) ?_ ?_
  · skip
    refine WP_region ?_
    refine RL_do rfl rfl (Do_move (v := .int .i64 p0) rfl) ?_
    refine RL_do rfl rfl (Do_move (v := .int .i64 p1) rfl) ?_
    obtain ⟨x10, e11, hF⟩ := letO_some hF
    refine RL_do rfl rfl (Do_as (Do_geq (a := p0) (b := p1) rfl rfl) (congrArg Value.bool e11)) ?_
    refine RL_splitb (b := x10) rfl rfl rfl (fun c12 => ?_) (fun c12 => ?_)
    · have hF := iteB_t c12 hF
      refine RL_do rfl rfl (Do_move (v := .int .i64 p0) rfl) ?_
      refine RL_do rfl rfl (Do_move (v := .int .i64 p2) rfl) ?_
      obtain ⟨x13, e14, hF⟩ := letO_some hF
      refine RL_do rfl rfl (Do_as (Do_leq (a := p0) (b := p2) rfl rfl) (congrArg Value.bool e14)) ?_
      refine RL_do rfl rfl (Do_pick_t (v := .bool x13) rfl rfl) ?_
      refine RL_do rfl rfl (Do_assign (v := .bool x13) rfl) ?_
      have hR := Option.some.inj hF
      subst hR
      refine (RL_nil (thenQ_n (And.intro ?_ ?_)))
      · repeat' (first | with_reducible exact Fr_refl | refine Fr_upd rfl ?_ | refine Fr_over rfl rfl ?_)
      · exact ⟨(), (Sl_cons rfl Sl_nil), H.pick [] (by decide)⟩
    · have hF := iteB_f c12 hF
      refine RL_off rfl rfl ?_
      refine RL_off rfl rfl ?_
      refine RL_off rfl rfl ?_
      refine RL_do rfl rfl (Do_pick_f (v := .bool false) rfl rfl) ?_
      refine RL_do rfl rfl (Do_assign (v := .bool false) rfl) ?_
      have hR := Option.some.inj hF
      subst hR
      refine (RL_nil (thenQ_n (And.intro ?_ ?_)))
      · repeat' (first | with_reducible exact Fr_refl | refine Fr_upd rfl ?_ | refine Fr_over rfl rfl ?_)
      · exact ⟨(), (Sl_cons rfl Sl_nil), H.pick [] (by decide)⟩
  · rintro _ ρ w8 H
    have hF := hK9
    have hR := Option.some.inj hF
    subst hR
    refine (WP_ret (post1 (v1 := .bool g7) rfl rfl ?_))
    exact ⟨rfl, H.pick [] (by decide)⟩
end Go.Proofs.YtbjhondbheijiaaGreat.L
