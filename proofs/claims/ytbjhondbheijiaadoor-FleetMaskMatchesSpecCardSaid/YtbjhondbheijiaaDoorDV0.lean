/- Walks: what each function computes, for every argument; no condition but those that stand in the statements. -/
import Derived.Test.YtbjhondbheijiaaDoorRows
import Derived.Test.YtbjhondbheijiaaDoorDP
import Derived.Test.YtbjhondbheijiaaDoorXEb
namespace Go.Proofs.YtbjhondbheijiaaDoor.L
open Go.RowKit Go.OB Go.Lf
theorem u2 : Tryd.prog.underlying 2 = some (.int .i64) := Tryd.underlying2
theorem u5 : Tryd.prog.underlying 5 = some (.int .u8) := Tryd.underlying5
theorem u9 : Tryd.prog.underlying 9 = some .string := Tryd.underlying9
theorem u22 : Tryd.prog.underlying 22 = some (.slice 25) := Tryd.underlying22
theorem u23 : Tryd.prog.underlying 23 = some (.slice 3) := Tryd.underlying23
theorem u32 : Tryd.prog.underlying 32 = some (.slice 5) := Tryd.underlying32
theorem u35 : Tryd.prog.underlying 35 = some (.slice 9) := Tryd.underlying35
theorem u45 : Tryd.prog.underlying 45 = some (.slice 95) := Tryd.underlying45
theorem u48 : Tryd.prog.underlying 48 = some (.slice 82) := Tryd.underlying48
theorem u91 : Tryd.prog.underlying 91 = some (.slice 99) := Tryd.underlying91
theorem u119 : Tryd.prog.underlying 119 = some (.int .u64) := Tryd.underlying119
theorem sz3 : Sz Tryd.prog 3 1 := by unfold Sz; kernel_rfl
theorem sz9 : Sz Tryd.prog 9 1 := by unfold Sz; kernel_rfl
theorem sz23 : Sz Tryd.prog 23 1 := by unfold Sz; kernel_rfl
theorem sz25 : Sz Tryd.prog 25 4 := by unfold Sz; kernel_rfl
theorem sz32 : Sz Tryd.prog 32 1 := by unfold Sz; kernel_rfl
theorem sz45 : Sz Tryd.prog 45 1 := by unfold Sz; kernel_rfl
theorem sz47 : Sz Tryd.prog 47 6 := by unfold Sz; kernel_rfl
theorem sz50 : Sz Tryd.prog 50 5 := by unfold Sz; kernel_rfl
theorem sz82 : Sz Tryd.prog 82 2 := by unfold Sz; kernel_rfl
theorem sz91 : Sz Tryd.prog 91 1 := by unfold Sz; kernel_rfl
theorem sz93 : Sz Tryd.prog 93 2 := by unfold Sz; kernel_rfl
theorem sz95 : Sz Tryd.prog 95 4 := by unfold Sz; kernel_rfl
theorem sz99 : Sz Tryd.prog 99 3 := by unfold Sz; kernel_rfl
theorem one3 : OneC Tryd.prog 3 := by unfold OneC; kernel_rfl
theorem one4 : OneC Tryd.prog 4 := by unfold OneC; kernel_rfl
theorem one9 : OneC Tryd.prog 9 := by unfold OneC; kernel_rfl
theorem one23 : OneC Tryd.prog 23 := by unfold OneC; kernel_rfl
theorem one32 : OneC Tryd.prog 32 := by unfold OneC; kernel_rfl
theorem one35 : OneC Tryd.prog 35 := by unfold OneC; kernel_rfl
theorem one45 : OneC Tryd.prog 45 := by unfold OneC; kernel_rfl
theorem one48 : OneC Tryd.prog 48 := by unfold OneC; kernel_rfl
theorem one91 : OneC Tryd.prog 91 := by unfold OneC; kernel_rfl
theorem agg25 : Agg Tryd.prog 25 := by unfold Agg; kernel_rfl
theorem agg47 : Agg Tryd.prog 47 := by unfold Agg; kernel_rfl
theorem agg50 : Agg Tryd.prog 50 := by unfold Agg; kernel_rfl
theorem agg82 : Agg Tryd.prog 82 := by unfold Agg; kernel_rfl
theorem agg93 : Agg Tryd.prog 93 := by unfold Agg; kernel_rfl
theorem agg95 : Agg Tryd.prog 95 := by unfold Agg; kernel_rfl
theorem agg99 : Agg Tryd.prog 99 := by unfold Agg; kernel_rfl
theorem zero25 : Go.OB.Zero Tryd.prog 25 ([.string (bs []), .bool false, .int .i64 0, .slice none 0 0]) := by unfold Go.OB.Zero; kernel_rfl
theorem zero47 : Go.OB.Zero Tryd.prog 47 ([.string (bs []), .string (bs []), .int .i64 0, .int .i64 0, .int .i64 0, .slice none 0 0]) := by unfold Go.OB.Zero; kernel_rfl
theorem zero82 : Go.OB.Zero Tryd.prog 82 ([.string (bs []), .int .i64 0]) := by unfold Go.OB.Zero; kernel_rfl
theorem zero93 : Go.OB.Zero Tryd.prog 93 ([.int .i64 0, .slice none 0 0]) := by unfold Go.OB.Zero; kernel_rfl
theorem zero95 : Go.OB.Zero Tryd.prog 95 ([.string (bs []), .int .i64 0, .slice none 0 0, .int .i64 0]) := by unfold Go.OB.Zero; kernel_rfl
theorem zero99 : Go.OB.Zero Tryd.prog 99 ([.int .i64 0, .int .i64 0, .int .i64 0]) := by unfold Go.OB.Zero; kernel_rfl
theorem el3 : El Tryd.prog 3 1 8 ([.int .i64 0]) := ⟨by kernel_rfl, by kernel_rfl, by kernel_rfl, by decide, by decide⟩
theorem el5 : El Tryd.prog 5 1 1 ([.int .u8 0]) := ⟨by kernel_rfl, by kernel_rfl, by kernel_rfl, by decide, by decide⟩
theorem el9 : El Tryd.prog 9 1 16 ([.string (bs [])]) := ⟨by kernel_rfl, by kernel_rfl, by kernel_rfl, by decide, by decide⟩
theorem el25 : El Tryd.prog 25 4 56 ([.string (bs []), .bool false, .int .i64 0, .slice none 0 0]) := ⟨by kernel_rfl, by kernel_rfl, by kernel_rfl, by decide, by decide⟩
theorem el95 : El Tryd.prog 95 4 56 ([.string (bs []), .int .i64 0, .slice none 0 0, .int .i64 0]) := ⟨by kernel_rfl, by kernel_rfl, by kernel_rfl, by decide, by decide⟩
theorem el99 : El Tryd.prog 99 3 24 ([.int .i64 0, .int .i64 0, .int .i64 0]) := ⟨by kernel_rfl, by kernel_rfl, by kernel_rfl, by decide, by decide⟩
theorem z8_5 : Z8 Tryd.prog 5 := by unfold Z8; kernel_rfl
theorem bz25 : Tryd.prog.built 25 [] = some ([.string (bs []), .bool false, .int .i64 0, .slice none 0 0]).toArray := by kernel_rfl
theorem bz34 : Tryd.prog.built 34 [] = some ([.slice none 0 0]).toArray := by kernel_rfl
theorem bz47 : Tryd.prog.built 47 [] = some ([.string (bs []), .string (bs []), .int .i64 0, .int .i64 0, .int .i64 0, .slice none 0 0]).toArray := by kernel_rfl
theorem bt25_0_2_3 (a0 : Str) (a1 : Int) (a2a : Option Addr) (a2n a2c : Nat) : Tryd.prog.built 25 [(0, .string (bs a0)), (2, .int .i64 a1), (3, .slice a2a a2n a2c)] = some [.string (bs a0), .bool false, .int .i64 a1, .slice a2a a2n a2c].toArray := by kernel_rfl
theorem bt93_0 (a0 : Int) : Tryd.prog.built 93 [(0, .int .i64 a0)] = some [.int .i64 a0, .slice none 0 0].toArray := by kernel_rfl
theorem fa25_0 {ρ : Env} {w : World} {d : Option Tmp} {x : Operand} {ty : TypeId} {pos : String} {af : Array Edge} {g : Option (Nat × Bool)} {b o : Nat} (hx : ev ρ x = .pointer (some ⟨b, o, none⟩)) : Do Tryd.prog ⟨d, .fieldAddr 25 x 0, ty, pos, af, g⟩ ρ w (.pointer (some ⟨b, o + 0, none⟩)) w := Do_fieldAddrC (n := 1) (m := 0) (by kernel_rfl) (by decide) hx
theorem fa25_1 {ρ : Env} {w : World} {d : Option Tmp} {x : Operand} {ty : TypeId} {pos : String} {af : Array Edge} {g : Option (Nat × Bool)} {b o : Nat} (hx : ev ρ x = .pointer (some ⟨b, o, none⟩)) : Do Tryd.prog ⟨d, .fieldAddr 25 x 1, ty, pos, af, g⟩ ρ w (.pointer (some ⟨b, o + 1, none⟩)) w := Do_fieldAddrC (n := 1) (m := 1) (by kernel_rfl) (by decide) hx
theorem fa25_2 {ρ : Env} {w : World} {d : Option Tmp} {x : Operand} {ty : TypeId} {pos : String} {af : Array Edge} {g : Option (Nat × Bool)} {b o : Nat} (hx : ev ρ x = .pointer (some ⟨b, o, none⟩)) : Do Tryd.prog ⟨d, .fieldAddr 25 x 2, ty, pos, af, g⟩ ρ w (.pointer (some ⟨b, o + 2, none⟩)) w := Do_fieldAddrC (n := 1) (m := 2) (by kernel_rfl) (by decide) hx
theorem fa25_3 {ρ : Env} {w : World} {d : Option Tmp} {x : Operand} {ty : TypeId} {pos : String} {af : Array Edge} {g : Option (Nat × Bool)} {b o : Nat} (hx : ev ρ x = .pointer (some ⟨b, o, none⟩)) : Do Tryd.prog ⟨d, .fieldAddr 25 x 3, ty, pos, af, g⟩ ρ w (.pointer (some ⟨b, o + 3, none⟩)) w := Do_fieldAddrC (n := 1) (m := 3) (by kernel_rfl) (by decide) hx
theorem fa34_0 {ρ : Env} {w : World} {d : Option Tmp} {x : Operand} {ty : TypeId} {pos : String} {af : Array Edge} {g : Option (Nat × Bool)} {b o : Nat} (hx : ev ρ x = .pointer (some ⟨b, o, none⟩)) : Do Tryd.prog ⟨d, .fieldAddr 34 x 0, ty, pos, af, g⟩ ρ w (.pointer (some ⟨b, o + 0, none⟩)) w := Do_fieldAddrC (n := 1) (m := 0) (by kernel_rfl) (by decide) hx
theorem fa47_0 {ρ : Env} {w : World} {d : Option Tmp} {x : Operand} {ty : TypeId} {pos : String} {af : Array Edge} {g : Option (Nat × Bool)} {b o : Nat} (hx : ev ρ x = .pointer (some ⟨b, o, none⟩)) : Do Tryd.prog ⟨d, .fieldAddr 47 x 0, ty, pos, af, g⟩ ρ w (.pointer (some ⟨b, o + 0, none⟩)) w := Do_fieldAddrC (n := 1) (m := 0) (by kernel_rfl) (by decide) hx
theorem fa47_1 {ρ : Env} {w : World} {d : Option Tmp} {x : Operand} {ty : TypeId} {pos : String} {af : Array Edge} {g : Option (Nat × Bool)} {b o : Nat} (hx : ev ρ x = .pointer (some ⟨b, o, none⟩)) : Do Tryd.prog ⟨d, .fieldAddr 47 x 1, ty, pos, af, g⟩ ρ w (.pointer (some ⟨b, o + 1, none⟩)) w := Do_fieldAddrC (n := 1) (m := 1) (by kernel_rfl) (by decide) hx
theorem fa47_2 {ρ : Env} {w : World} {d : Option Tmp} {x : Operand} {ty : TypeId} {pos : String} {af : Array Edge} {g : Option (Nat × Bool)} {b o : Nat} (hx : ev ρ x = .pointer (some ⟨b, o, none⟩)) : Do Tryd.prog ⟨d, .fieldAddr 47 x 2, ty, pos, af, g⟩ ρ w (.pointer (some ⟨b, o + 2, none⟩)) w := Do_fieldAddrC (n := 1) (m := 2) (by kernel_rfl) (by decide) hx
theorem fa47_3 {ρ : Env} {w : World} {d : Option Tmp} {x : Operand} {ty : TypeId} {pos : String} {af : Array Edge} {g : Option (Nat × Bool)} {b o : Nat} (hx : ev ρ x = .pointer (some ⟨b, o, none⟩)) : Do Tryd.prog ⟨d, .fieldAddr 47 x 3, ty, pos, af, g⟩ ρ w (.pointer (some ⟨b, o + 3, none⟩)) w := Do_fieldAddrC (n := 1) (m := 3) (by kernel_rfl) (by decide) hx
theorem fa47_4 {ρ : Env} {w : World} {d : Option Tmp} {x : Operand} {ty : TypeId} {pos : String} {af : Array Edge} {g : Option (Nat × Bool)} {b o : Nat} (hx : ev ρ x = .pointer (some ⟨b, o, none⟩)) : Do Tryd.prog ⟨d, .fieldAddr 47 x 4, ty, pos, af, g⟩ ρ w (.pointer (some ⟨b, o + 4, none⟩)) w := Do_fieldAddrC (n := 1) (m := 4) (by kernel_rfl) (by decide) hx
theorem fa47_5 {ρ : Env} {w : World} {d : Option Tmp} {x : Operand} {ty : TypeId} {pos : String} {af : Array Edge} {g : Option (Nat × Bool)} {b o : Nat} (hx : ev ρ x = .pointer (some ⟨b, o, none⟩)) : Do Tryd.prog ⟨d, .fieldAddr 47 x 5, ty, pos, af, g⟩ ρ w (.pointer (some ⟨b, o + 5, none⟩)) w := Do_fieldAddrC (n := 1) (m := 5) (by kernel_rfl) (by decide) hx
theorem fa50_0 {ρ : Env} {w : World} {d : Option Tmp} {x : Operand} {ty : TypeId} {pos : String} {af : Array Edge} {g : Option (Nat × Bool)} {b o : Nat} (hx : ev ρ x = .pointer (some ⟨b, o, none⟩)) : Do Tryd.prog ⟨d, .fieldAddr 50 x 0, ty, pos, af, g⟩ ρ w (.pointer (some ⟨b, o + 0, none⟩)) w := Do_fieldAddrC (n := 1) (m := 0) (by kernel_rfl) (by decide) hx
theorem fa50_1 {ρ : Env} {w : World} {d : Option Tmp} {x : Operand} {ty : TypeId} {pos : String} {af : Array Edge} {g : Option (Nat × Bool)} {b o : Nat} (hx : ev ρ x = .pointer (some ⟨b, o, none⟩)) : Do Tryd.prog ⟨d, .fieldAddr 50 x 1, ty, pos, af, g⟩ ρ w (.pointer (some ⟨b, o + 1, none⟩)) w := Do_fieldAddrC (n := 1) (m := 1) (by kernel_rfl) (by decide) hx
theorem fa50_2 {ρ : Env} {w : World} {d : Option Tmp} {x : Operand} {ty : TypeId} {pos : String} {af : Array Edge} {g : Option (Nat × Bool)} {b o : Nat} (hx : ev ρ x = .pointer (some ⟨b, o, none⟩)) : Do Tryd.prog ⟨d, .fieldAddr 50 x 2, ty, pos, af, g⟩ ρ w (.pointer (some ⟨b, o + 2, none⟩)) w := Do_fieldAddrC (n := 1) (m := 2) (by kernel_rfl) (by decide) hx
theorem fa50_3 {ρ : Env} {w : World} {d : Option Tmp} {x : Operand} {ty : TypeId} {pos : String} {af : Array Edge} {g : Option (Nat × Bool)} {b o : Nat} (hx : ev ρ x = .pointer (some ⟨b, o, none⟩)) : Do Tryd.prog ⟨d, .fieldAddr 50 x 3, ty, pos, af, g⟩ ρ w (.pointer (some ⟨b, o + 3, none⟩)) w := Do_fieldAddrC (n := 1) (m := 3) (by kernel_rfl) (by decide) hx
theorem fa50_4 {ρ : Env} {w : World} {d : Option Tmp} {x : Operand} {ty : TypeId} {pos : String} {af : Array Edge} {g : Option (Nat × Bool)} {b o : Nat} (hx : ev ρ x = .pointer (some ⟨b, o, none⟩)) : Do Tryd.prog ⟨d, .fieldAddr 50 x 4, ty, pos, af, g⟩ ρ w (.pointer (some ⟨b, o + 4, none⟩)) w := Do_fieldAddrC (n := 1) (m := 4) (by kernel_rfl) (by decide) hx
theorem fa82_0 {ρ : Env} {w : World} {d : Option Tmp} {x : Operand} {ty : TypeId} {pos : String} {af : Array Edge} {g : Option (Nat × Bool)} {b o : Nat} (hx : ev ρ x = .pointer (some ⟨b, o, none⟩)) : Do Tryd.prog ⟨d, .fieldAddr 82 x 0, ty, pos, af, g⟩ ρ w (.pointer (some ⟨b, o + 0, none⟩)) w := Do_fieldAddrC (n := 1) (m := 0) (by kernel_rfl) (by decide) hx
theorem fa82_1 {ρ : Env} {w : World} {d : Option Tmp} {x : Operand} {ty : TypeId} {pos : String} {af : Array Edge} {g : Option (Nat × Bool)} {b o : Nat} (hx : ev ρ x = .pointer (some ⟨b, o, none⟩)) : Do Tryd.prog ⟨d, .fieldAddr 82 x 1, ty, pos, af, g⟩ ρ w (.pointer (some ⟨b, o + 1, none⟩)) w := Do_fieldAddrC (n := 1) (m := 1) (by kernel_rfl) (by decide) hx
theorem fa93_0 {ρ : Env} {w : World} {d : Option Tmp} {x : Operand} {ty : TypeId} {pos : String} {af : Array Edge} {g : Option (Nat × Bool)} {b o : Nat} (hx : ev ρ x = .pointer (some ⟨b, o, none⟩)) : Do Tryd.prog ⟨d, .fieldAddr 93 x 0, ty, pos, af, g⟩ ρ w (.pointer (some ⟨b, o + 0, none⟩)) w := Do_fieldAddrC (n := 1) (m := 0) (by kernel_rfl) (by decide) hx
theorem fa93_1 {ρ : Env} {w : World} {d : Option Tmp} {x : Operand} {ty : TypeId} {pos : String} {af : Array Edge} {g : Option (Nat × Bool)} {b o : Nat} (hx : ev ρ x = .pointer (some ⟨b, o, none⟩)) : Do Tryd.prog ⟨d, .fieldAddr 93 x 1, ty, pos, af, g⟩ ρ w (.pointer (some ⟨b, o + 1, none⟩)) w := Do_fieldAddrC (n := 1) (m := 1) (by kernel_rfl) (by decide) hx
theorem fa95_0 {ρ : Env} {w : World} {d : Option Tmp} {x : Operand} {ty : TypeId} {pos : String} {af : Array Edge} {g : Option (Nat × Bool)} {b o : Nat} (hx : ev ρ x = .pointer (some ⟨b, o, none⟩)) : Do Tryd.prog ⟨d, .fieldAddr 95 x 0, ty, pos, af, g⟩ ρ w (.pointer (some ⟨b, o + 0, none⟩)) w := Do_fieldAddrC (n := 1) (m := 0) (by kernel_rfl) (by decide) hx
theorem fa95_1 {ρ : Env} {w : World} {d : Option Tmp} {x : Operand} {ty : TypeId} {pos : String} {af : Array Edge} {g : Option (Nat × Bool)} {b o : Nat} (hx : ev ρ x = .pointer (some ⟨b, o, none⟩)) : Do Tryd.prog ⟨d, .fieldAddr 95 x 1, ty, pos, af, g⟩ ρ w (.pointer (some ⟨b, o + 1, none⟩)) w := Do_fieldAddrC (n := 2) (m := 1) (by kernel_rfl) (by decide) hx
theorem fa95_2 {ρ : Env} {w : World} {d : Option Tmp} {x : Operand} {ty : TypeId} {pos : String} {af : Array Edge} {g : Option (Nat × Bool)} {b o : Nat} (hx : ev ρ x = .pointer (some ⟨b, o, none⟩)) : Do Tryd.prog ⟨d, .fieldAddr 95 x 2, ty, pos, af, g⟩ ρ w (.pointer (some ⟨b, o + 3, none⟩)) w := Do_fieldAddrC (n := 1) (m := 3) (by kernel_rfl) (by decide) hx
theorem fa99_0 {ρ : Env} {w : World} {d : Option Tmp} {x : Operand} {ty : TypeId} {pos : String} {af : Array Edge} {g : Option (Nat × Bool)} {b o : Nat} (hx : ev ρ x = .pointer (some ⟨b, o, none⟩)) : Do Tryd.prog ⟨d, .fieldAddr 99 x 0, ty, pos, af, g⟩ ρ w (.pointer (some ⟨b, o + 0, none⟩)) w := Do_fieldAddrC (n := 1) (m := 0) (by kernel_rfl) (by decide) hx
theorem fa99_1 {ρ : Env} {w : World} {d : Option Tmp} {x : Operand} {ty : TypeId} {pos : String} {af : Array Edge} {g : Option (Nat × Bool)} {b o : Nat} (hx : ev ρ x = .pointer (some ⟨b, o, none⟩)) : Do Tryd.prog ⟨d, .fieldAddr 99 x 1, ty, pos, af, g⟩ ρ w (.pointer (some ⟨b, o + 1, none⟩)) w := Do_fieldAddrC (n := 1) (m := 1) (by kernel_rfl) (by decide) hx
theorem fa99_2 {ρ : Env} {w : World} {d : Option Tmp} {x : Operand} {ty : TypeId} {pos : String} {af : Array Edge} {g : Option (Nat × Bool)} {b o : Nat} (hx : ev ρ x = .pointer (some ⟨b, o, none⟩)) : Do Tryd.prog ⟨d, .fieldAddr 99 x 2, ty, pos, af, g⟩ ρ w (.pointer (some ⟨b, o + 2, none⟩)) w := Do_fieldAddrC (n := 1) (m := 2) (by kernel_rfl) (by decide) hx
theorem en5 : Go.OB.Enters Tryd.prog 5 := ⟨_, Tryd.func5, rfl, by kernel_rfl⟩
theorem en7 : Go.OB.Enters Tryd.prog 7 := ⟨_, Tryd.func7, rfl, by kernel_rfl⟩
theorem en12 : Go.OB.Enters Tryd.prog 12 := ⟨_, Tryd.func12, rfl, by kernel_rfl⟩
theorem en13 : Go.OB.Enters Tryd.prog 13 := ⟨_, Tryd.func13, rfl, by kernel_rfl⟩
theorem en16 : Go.OB.Enters Tryd.prog 16 := ⟨_, Tryd.func16, rfl, by kernel_rfl⟩
theorem en17 : Go.OB.Enters Tryd.prog 17 := ⟨_, Tryd.func17, rfl, by kernel_rfl⟩
theorem en18 : Go.OB.Enters Tryd.prog 18 := ⟨_, Tryd.func18, rfl, by kernel_rfl⟩
theorem en19 : Go.OB.Enters Tryd.prog 19 := ⟨_, Tryd.func19, rfl, by kernel_rfl⟩
theorem en20 : Go.OB.Enters Tryd.prog 20 := ⟨_, Tryd.func20, rfl, by kernel_rfl⟩
theorem en21 : Go.OB.Enters Tryd.prog 21 := ⟨_, Tryd.func21, rfl, by kernel_rfl⟩
theorem en22 : Go.OB.Enters Tryd.prog 22 := ⟨_, Tryd.func22, rfl, by kernel_rfl⟩
theorem en23 : Go.OB.Enters Tryd.prog 23 := ⟨_, Tryd.func23, rfl, by kernel_rfl⟩
theorem en24 : Go.OB.Enters Tryd.prog 24 := ⟨_, Tryd.func24, rfl, by kernel_rfl⟩
theorem en25 : Go.OB.Enters Tryd.prog 25 := ⟨_, Tryd.func25, rfl, by kernel_rfl⟩
theorem en26 : Go.OB.Enters Tryd.prog 26 := ⟨_, Tryd.func26, rfl, by kernel_rfl⟩
theorem en27 : Go.OB.Enters Tryd.prog 27 := ⟨_, Tryd.func27, rfl, by kernel_rfl⟩
theorem en28 : Go.OB.Enters Tryd.prog 28 := ⟨_, Tryd.func28, rfl, by kernel_rfl⟩
theorem en29 : Go.OB.Enters Tryd.prog 29 := ⟨_, Tryd.func29, rfl, by kernel_rfl⟩
theorem en30 : Go.OB.Enters Tryd.prog 30 := ⟨_, Tryd.func30, rfl, by kernel_rfl⟩
theorem en31 : Go.OB.Enters Tryd.prog 31 := ⟨_, Tryd.func31, rfl, by kernel_rfl⟩
theorem en32 : Go.OB.Enters Tryd.prog 32 := ⟨_, Tryd.func32, rfl, by kernel_rfl⟩
theorem en33 : Go.OB.Enters Tryd.prog 33 := ⟨_, Tryd.func33, rfl, by kernel_rfl⟩
theorem en35 : Go.OB.Enters Tryd.prog 35 := ⟨_, Tryd.func35, rfl, by kernel_rfl⟩
theorem en36 : Go.OB.Enters Tryd.prog 36 := ⟨_, Tryd.func36, rfl, by kernel_rfl⟩
theorem en43 : Go.OB.Enters Tryd.prog 43 := ⟨_, Tryd.func43, rfl, by kernel_rfl⟩
theorem en44 : Go.OB.Enters Tryd.prog 44 := ⟨_, Tryd.func44, rfl, by kernel_rfl⟩
theorem en45 : Go.OB.Enters Tryd.prog 45 := ⟨_, Tryd.func45, rfl, by kernel_rfl⟩
theorem en46 : Go.OB.Enters Tryd.prog 46 := ⟨_, Tryd.func46, rfl, by kernel_rfl⟩
theorem en47 : Go.OB.Enters Tryd.prog 47 := ⟨_, Tryd.func47, rfl, by kernel_rfl⟩
theorem en48 : Go.OB.Enters Tryd.prog 48 := ⟨_, Tryd.func48, rfl, by kernel_rfl⟩
theorem en49 : Go.OB.Enters Tryd.prog 49 := ⟨_, Tryd.func49, rfl, by kernel_rfl⟩
theorem en50 : Go.OB.Enters Tryd.prog 50 := ⟨_, Tryd.func50, rfl, by kernel_rfl⟩
theorem en51 : Go.OB.Enters Tryd.prog 51 := ⟨_, Tryd.func51, rfl, by kernel_rfl⟩
theorem en52 : Go.OB.Enters Tryd.prog 52 := ⟨_, Tryd.func52, rfl, by kernel_rfl⟩
theorem en53 : Go.OB.Enters Tryd.prog 53 := ⟨_, Tryd.func53, rfl, by kernel_rfl⟩
theorem en54 : Go.OB.Enters Tryd.prog 54 := ⟨_, Tryd.func54, rfl, by kernel_rfl⟩
theorem en55 : Go.OB.Enters Tryd.prog 55 := ⟨_, Tryd.func55, rfl, by kernel_rfl⟩
theorem en56 : Go.OB.Enters Tryd.prog 56 := ⟨_, Tryd.func56, rfl, by kernel_rfl⟩
theorem en60 : Go.OB.Enters Tryd.prog 60 := ⟨_, Tryd.func60, rfl, by kernel_rfl⟩
theorem en61 : Go.OB.Enters Tryd.prog 61 := ⟨_, Tryd.func61, rfl, by kernel_rfl⟩
theorem en62 : Go.OB.Enters Tryd.prog 62 := ⟨_, Tryd.func62, rfl, by kernel_rfl⟩
theorem en63 : Go.OB.Enters Tryd.prog 63 := ⟨_, Tryd.func63, rfl, by kernel_rfl⟩
theorem en64 : Go.OB.Enters Tryd.prog 64 := ⟨_, Tryd.func64, rfl, by kernel_rfl⟩
theorem en65 : Go.OB.Enters Tryd.prog 65 := ⟨_, Tryd.func65, rfl, by kernel_rfl⟩
theorem en66 : Go.OB.Enters Tryd.prog 66 := ⟨_, Tryd.func66, rfl, by kernel_rfl⟩
theorem en67 : Go.OB.Enters Tryd.prog 67 := ⟨_, Tryd.func67, rfl, by kernel_rfl⟩
theorem en68 : Go.OB.Enters Tryd.prog 68 := ⟨_, Tryd.func68, rfl, by kernel_rfl⟩
theorem en69 : Go.OB.Enters Tryd.prog 69 := ⟨_, Tryd.func69, rfl, by kernel_rfl⟩
theorem en70 : Go.OB.Enters Tryd.prog 70 := ⟨_, Tryd.func70, rfl, by kernel_rfl⟩
theorem en71 : Go.OB.Enters Tryd.prog 71 := ⟨_, Tryd.func71, rfl, by kernel_rfl⟩
theorem en72 : Go.OB.Enters Tryd.prog 72 := ⟨_, Tryd.func72, rfl, by kernel_rfl⟩
theorem en73 : Go.OB.Enters Tryd.prog 73 := ⟨_, Tryd.func73, rfl, by kernel_rfl⟩
theorem en74 : Go.OB.Enters Tryd.prog 74 := ⟨_, Tryd.func74, rfl, by kernel_rfl⟩
theorem en75 : Go.OB.Enters Tryd.prog 75 := ⟨_, Tryd.func75, rfl, by kernel_rfl⟩
theorem en76 : Go.OB.Enters Tryd.prog 76 := ⟨_, Tryd.func76, rfl, by kernel_rfl⟩
theorem en80 : Go.OB.Enters Tryd.prog 80 := ⟨_, Tryd.func80, rfl, by kernel_rfl⟩
theorem en81 : Go.OB.Enters Tryd.prog 81 := ⟨_, Tryd.func81, rfl, by kernel_rfl⟩
theorem en82 : Go.OB.Enters Tryd.prog 82 := ⟨_, Tryd.func82, rfl, by kernel_rfl⟩
theorem en83 : Go.OB.Enters Tryd.prog 83 := ⟨_, Tryd.func83, rfl, by kernel_rfl⟩
theorem en84 : Go.OB.Enters Tryd.prog 84 := ⟨_, Tryd.func84, rfl, by kernel_rfl⟩
theorem en85 : Go.OB.Enters Tryd.prog 85 := ⟨_, Tryd.func85, rfl, by kernel_rfl⟩
theorem en86 : Go.OB.Enters Tryd.prog 86 := ⟨_, Tryd.func86, rfl, by kernel_rfl⟩
theorem en87 : Go.OB.Enters Tryd.prog 87 := ⟨_, Tryd.func87, rfl, by kernel_rfl⟩
theorem en88 : Go.OB.Enters Tryd.prog 88 := ⟨_, Tryd.func88, rfl, by kernel_rfl⟩
theorem en89 : Go.OB.Enters Tryd.prog 89 := ⟨_, Tryd.func89, rfl, by kernel_rfl⟩
theorem en95 : Go.OB.Enters Tryd.prog 95 := ⟨_, Tryd.func95, rfl, by kernel_rfl⟩
theorem en96 : Go.OB.Enters Tryd.prog 96 := ⟨_, Tryd.func96, rfl, by kernel_rfl⟩
theorem en97 : Go.OB.Enters Tryd.prog 97 := ⟨_, Tryd.func97, rfl, by kernel_rfl⟩
theorem en98 : Go.OB.Enters Tryd.prog 98 := ⟨_, Tryd.func98, rfl, by kernel_rfl⟩
theorem en99 : Go.OB.Enters Tryd.prog 99 := ⟨_, Tryd.func99, rfl, by kernel_rfl⟩
theorem en105 : Go.OB.Enters Tryd.prog 105 := ⟨_, Tryd.func105, rfl, by kernel_rfl⟩
theorem mixed : Tryd.prog.follows .mixedOrders = true := by kernel_rfl
end Go.Proofs.YtbjhondbheijiaaDoor.L
namespace Go.Proofs.YtbjhondbheijiaaDoor.L
open Go.RowKit Go.OB Go.Lf
/- internal/strconv.AppendInt -/
set_option maxHeartbeats 4000000 in
theorem F_internal_strconv_AppendInt_w (p0 : List Int) (p1 : Int) (p2 : Int) (v1 : Value) (r : (List Int)) (hF : F_internal_strconv_AppendInt p0 p1 p2 = some r) (O S : List Nat) (w : World) (H : Hd O w w S [.own (Rp.int .u8) v1 5 p0, .fz (.at 0 0 ((Fl.arr 20 (Fl.int .u64)).f G_internal_strconv_uint64pow10))]) :
    Calls Tryd.prog 76 ([v1, .int .i64 p1, .int .i64 p2] : List Value).toArray w fun e w' => ∃ u4, e = .returned (u4) ∧ Hd O w w' S [.own (Rp.int .u8) u4 5 r] := by
  unfold F_internal_strconv_AppendInt at hF
  refine calls_of_WP 21 Tryd.func76 rfl rfl rfl ?_
  refine WP_seq_k fun K5 hK5 => ?_
  refine WP_region ?_
  refine RL_do rfl rfl (Do_assign (v := .slice none 0 0) rfl) ?_
  refine (RL_nil (thenQ_n (hK5 _ _ ?_)))
  refine WP_seq_k fun K6 hK6 => ?_
  refine WP_region ?_
  refine RL_do rfl rfl (Do_move (v := .int .i64 p1) rfl) ?_
  obtain ⟨x7, e8, hF⟩ := letO_some hF
  refine RL_do rfl rfl (Do_conv u2 u119 rfl e8) ?_
  refine RL_do rfl rfl (Do_assign (v := .int .u64 x7) rfl) ?_
  refine (RL_nil (thenQ_n (hK6 _ _ ?_)))
  obtain ⟨j30, hF, hK29⟩ := bindO_some hF
  refine WP_seqS [0, 7, 10, 11, 12, 13, 14, 15, 16] (fun (g : Value) => [(0, g), (7, .int .u64 j30.2)]) (fun g wl => Hd O w wl S [.own (Rp.int .u8) g 5 j30.1, .fz (.at 0 0 ((Fl.arr 20 (Fl.int .u64)).f G_internal_strconv_uint64pow10))]) ?_ ?_
  · skip
    refine WP_seq_k fun K31 hK31 => ?_
    refine WP_region ?_
    refine RL_do rfl rfl (Do_move (v := .int .i64 p1) rfl) ?_
    obtain ⟨x32, e33, hF⟩ := letO_some hF
    refine RL_do rfl rfl (Do_as (Do_lss (a := p1) (b := 0) rfl rfl) (congrArg Value.bool e33)) ?_
    refine (RL_nil (thenQ_n (hK31 _ _ ?_)))
    refine WP_ifb (b := x32) rfl (fun c34 => ?_) (fun c34 => ?_)
    · have hF := iteB_t c34 hF
      refine WP_seq_k fun K35 hK35 => ?_
      refine WP_region ?_
      refine RL_do rfl rfl (Do_move (v := v1) rfl) ?_
      obtain ⟨x36, e37, hF⟩ := letO_some hF
      subst e37
      refine RL_ex rfl rfl (Lx_bs (r := (Rp.int .u8)) (xl := [45]) (cs := [.int .u8 45]) u32 el5 (by decide) (by decide) rfl (fillB_parts (vs := [.int .u8 45]) (by decide) rfl rfl ⟨rfl, trivial⟩ rfl) H ⟨[.int .u8 45], [], rfl, rfl, rfl⟩) ?_
      rintro v39 w40 H
      obtain ⟨x41, e42, hF⟩ := bindO_some hF
      refine RL_ex rfl rfl (Lx_app H (i := 0) rfl u32 el5 rfl rfl (Sr.of_own (H.item (i := 2) rfl)) e42) ?_
      rintro v43 w44 H
      refine RL_do rfl rfl (Do_assign (v := v43) rfl) ?_
      refine (RL_nil (thenQ_n (hK35 _ _ ?_)))
      refine WP_region ?_
      refine RL_do rfl rfl (Do_move (v := .int .u64 x7) rfl) ?_
      obtain ⟨x45, e46, hF⟩ := letO_some hF
      refine RL_do rfl rfl (Do_neg (a := x7) rfl e46) ?_
      refine RL_do rfl rfl (Do_assign (v := .int .u64 x45) rfl) ?_
      have hR := Option.some.inj hF
      subst hR
      refine (RL_nil (thenQ_n (And.intro ?_ ?_)))
      · repeat' (first | with_reducible exact Fr_refl | refine Fr_upd rfl ?_ | refine Fr_over rfl rfl ?_)
      · exact ⟨v43, (Sl_cons rfl (Sl_cons rfl Sl_nil)), H.pick [0, 1] (by decide)⟩
    · have hF := iteB_f c34 hF
      have hR := Option.some.inj hF
      subst hR
      refine (WP_skip (thenQ_n (And.intro ?_ ?_)))
      · repeat' (first | with_reducible exact Fr_refl | refine Fr_upd rfl ?_ | refine Fr_over rfl rfl ?_)
      · exact ⟨v1, (Sl_cons rfl (Sl_cons rfl Sl_nil)), H.pick [0, 1] (by decide)⟩
  · rintro v26 ρ w28 H
    have hF := hK29
    obtain ⟨g25, g27⟩ := j30
    refine WP_seq_k fun K47 hK47 => ?_
    refine WP_region ?_
    refine RL_do rfl rfl (Do_move (v := v26) rfl) ?_
    refine RL_do rfl rfl (Do_move (v := .int .u64 g27) rfl) ?_
    refine RL_do rfl rfl (Do_move (v := .int .i64 p2) rfl) ?_
    obtain ⟨x48, e49, hF⟩ := bindO_some hF
    refine RL_call rfl rfl (DoC_func en89 rfl) (E.X_AppendUint_w g25 g27 p2 v26 _ e49 _ _ _ (H.enter [0] [1] (by decide) rfl)) ?_
    rintro _ w52 ⟨v50, rfl, G53⟩
    have H : Hd O _ w52 _ [.fz (.at 0 0 ((Fl.arr 20 (Fl.int .u64)).f G_internal_strconv_uint64pow10)), .own (Rp.int .u8) v50 5 x48] := H.back [0] [1] rfl G53
    refine ⟨_, rfl, ?_⟩
    refine RL_do rfl rfl (Do_assign (v := v50) rfl) ?_
    refine (RL_nil (thenQ_n (hK47 _ _ ?_)))
    have hR := Option.some.inj hF
    subst hR
    refine (WP_ret (post1 (v1 := v50) rfl rfl ?_))
    exact ⟨v50, rfl, H.pick [1] (by decide)⟩
end Go.Proofs.YtbjhondbheijiaaDoor.L
namespace Go.Proofs.YtbjhondbheijiaaDoor.L
open Go.RowKit Go.OB Go.Lf
/- strconv.AppendInt -/
set_option maxHeartbeats 4000000 in
theorem F_strconv_AppendInt_w (p0 : List Int) (p1 : Int) (p2 : Int) (v1 : Value) (r : (List Int)) (hF : F_strconv_AppendInt p0 p1 p2 = some r) (O S : List Nat) (w : World) (H : Hd O w w S [.own (Rp.int .u8) v1 5 p0, .fz (.at 0 0 ((Fl.arr 20 (Fl.int .u64)).f G_internal_strconv_uint64pow10))]) :
    Calls Tryd.prog 56 ([v1, .int .i64 p1, .int .i64 p2] : List Value).toArray w fun e w' => ∃ u4, e = .returned (u4) ∧ Hd O w w' S [.own (Rp.int .u8) u4 5 r] := by
  unfold F_strconv_AppendInt at hF
  refine calls_of_WP 11 Tryd.func56 rfl rfl rfl ?_
  refine WP_seq_k fun K5 hK5 => ?_
  refine WP_region ?_
  refine RL_do rfl rfl (Do_assign (v := .slice none 0 0) rfl) ?_
  refine (RL_nil (thenQ_n (hK5 _ _ ?_)))
  refine WP_seq_k fun K6 hK6 => ?_
  refine WP_region ?_
  refine RL_do rfl rfl (Do_move (v := v1) rfl) ?_
  refine RL_do rfl rfl (Do_move (v := .int .i64 p1) rfl) ?_
  refine RL_do rfl rfl (Do_move (v := .int .i64 p2) rfl) ?_
  obtain ⟨x7, e8, hF⟩ := bindO_some hF
  refine RL_call rfl rfl (DoC_func en76 rfl) (F_internal_strconv_AppendInt_w p0 p1 p2 v1 _ e8 _ _ _ (H.enter [0] [1] (by decide) rfl)) ?_
  rintro _ w11 ⟨v9, rfl, G12⟩
  have H : Hd O _ w11 _ [.fz (.at 0 0 ((Fl.arr 20 (Fl.int .u64)).f G_internal_strconv_uint64pow10)), .own (Rp.int .u8) v9 5 x7] := H.back [0] [1] rfl G12
  refine ⟨_, rfl, ?_⟩
  refine RL_do rfl rfl (Do_assign (v := v9) rfl) ?_
  refine (RL_nil (thenQ_n (hK6 _ _ ?_)))
  have hR := Option.some.inj hF
  subst hR
  refine (WP_ret (post1 (v1 := v9) rfl rfl ?_))
  exact ⟨v9, rfl, H.pick [1] (by decide)⟩
end Go.Proofs.YtbjhondbheijiaaDoor.L
namespace Go.Proofs.YtbjhondbheijiaaDoor.L
open Go.RowKit Go.OB Go.Lf
/- (*orangebox/orangeboxref0.Ink).Int -/
set_option maxHeartbeats 4000000 in
theorem F_ref0_Ink_Int_w (p0 : Orangeboxref0Ink) (p1 : Int) (b1 : Nat) (v2 : Value) (r : Orangeboxref0Ink) (hF : F_ref0_Ink_Int p0 p1 = some r) (O S : List Nat) (w : World) (H : Hd O w w S [.own (Rp.int .u8) v2 5 p0.out, .blk b1 [v2] 34, .fz (.at 0 0 ((Fl.arr 20 (Fl.int .u64)).f G_internal_strconv_uint64pow10))]) :
    Calls Tryd.prog 35 ([.pointer (some ⟨b1, 0, none⟩), .int .i64 p1] : List Value).toArray w fun e w' => ∃ u6, e = .returned (.tuple #[]) ∧ Hd O w w' S [.own (Rp.int .u8) u6 5 r.out, .blk b1 [u6] 34] := by
  unfold F_ref0_Ink_Int at hF
  refine calls_of_WP 22 Tryd.func35 rfl rfl rfl ?_
  refine WP_seq_k fun K7 hK7 => ?_
  refine WP_region ?_
  refine RL_do rfl rfl (Do_move (v := .pointer (some ⟨b1, 0, none⟩)) rfl) ?_
  refine RL_do rfl rfl (Do_move (v := .pointer (some ⟨b1, 0, none⟩)) rfl) ?_
  refine RL_do rfl rfl (Do_nilCheck rfl) ?_
  refine RL_do rfl rfl (fa34_0 rfl) ?_
  refine RL_do rfl rfl (Do_load one32 rfl (Cells.get (Blk.cells (H.item (i := 1) rfl)) (i := 0) rfl)) ?_
  refine RL_do rfl rfl (Do_move (v := .int .i64 p1) rfl) ?_
  obtain ⟨x8, e9, hF⟩ := bindO_some hF
  refine RL_call rfl rfl (DoC_func en56 rfl) (F_strconv_AppendInt_w p0.out p1 10 v2 _ e9 _ _ _ (H.enter [0] [2] (by decide) rfl)) ?_
  rintro _ w12 ⟨v10, rfl, G13⟩
  have H : Hd O _ w12 _ [.blk b1 [v2] 34, .fz (.at 0 0 ((Fl.arr 20 (Fl.int .u64)).f G_internal_strconv_uint64pow10)), .own (Rp.int .u8) v10 5 x8] := H.back [0] [2] rfl G13
  refine ⟨_, rfl, ?_⟩
  refine RL_do rfl rfl (Do_nilCheck rfl) ?_
  refine RL_do rfl rfl (fa34_0 rfl) ?_
  refine RL_exU rfl (Lx_store1 H 0 rfl sz32 rfl (v := v10) rfl (own_one (H.item (i := 2) rfl)) rfl) ?_
  rintro w14 H
  refine (RL_nil (thenQ_n (hK7 _ _ ?_)))
  refine WP_region ?_
  refine RL_do rfl rfl (Do_move (v := .pointer (some ⟨b1, 0, none⟩)) rfl) ?_
  refine RL_do rfl rfl (Do_move (v := .pointer (some ⟨b1, 0, none⟩)) rfl) ?_
  refine RL_do rfl rfl (Do_nilCheck rfl) ?_
  refine RL_do rfl rfl (fa34_0 rfl) ?_
  refine RL_do rfl rfl (Do_load one32 rfl (Cells.get (Blk.cells (H.item (i := 0) rfl)) (i := 0) rfl)) ?_
  obtain ⟨x15, e16, hF⟩ := letO_some hF
  subst e16
  refine RL_ex rfl rfl (Lx_bs (r := (Rp.int .u8)) (xl := [32]) (cs := [.int .u8 32]) u32 el5 (by decide) (by decide) rfl (fillB_parts (vs := [.int .u8 32]) (by decide) rfl rfl ⟨rfl, trivial⟩ rfl) H ⟨[.int .u8 32], [], rfl, rfl, rfl⟩) ?_
  rintro v18 w19 H
  obtain ⟨x20, e21, hF⟩ := bindO_some hF
  refine RL_ex rfl rfl (Lx_app H (i := 2) rfl u32 el5 rfl rfl (Sr.of_own (H.item (i := 3) rfl)) e21) ?_
  rintro v22 w23 H
  refine RL_do rfl rfl (Do_nilCheck rfl) ?_
  refine RL_do rfl rfl (fa34_0 rfl) ?_
  refine RL_exU rfl (Lx_store1 H 0 rfl sz32 rfl (v := v22) rfl (own_one (H.item (i := 2) rfl)) rfl) ?_
  rintro w24 H
  have hR := Option.some.inj hF
  subst hR
  refine (RL_nil (post0n rfl ?_))
  exact ⟨v22, rfl, H.pick [2, 0] (by decide)⟩
end Go.Proofs.YtbjhondbheijiaaDoor.L
namespace Go.Proofs.YtbjhondbheijiaaDoor.L
open Go.RowKit Go.OB Go.Lf
/- (*orangebox/orangeboxref0.Ink).Errno -/
set_option maxHeartbeats 4000000 in
theorem F_ref0_Ink_Errno_w (p0 : Orangeboxref0Ink) (p1 : Int) (b1 : Nat) (v2 : Value) (r : Orangeboxref0Ink) (hF : F_ref0_Ink_Errno p0 p1 = some r) (O S : List Nat) (w : World) (H : Hd O w w S [.own (Rp.int .u8) v2 5 p0.out, .blk b1 [v2] 34, .fz (.at 0 0 ((Fl.arr 20 (Fl.int .u64)).f G_internal_strconv_uint64pow10))]) :
    Calls Tryd.prog 13 ([.pointer (some ⟨b1, 0, none⟩), .int .i64 p1] : List Value).toArray w fun e w' => ∃ u6, e = .returned (.tuple #[]) ∧ Hd O w w' S [.own (Rp.int .u8) u6 5 r.out, .blk b1 [u6] 34] := by
  unfold F_ref0_Ink_Errno at hF
  refine calls_of_WP 7 Tryd.func13 rfl rfl rfl ?_
  refine WP_region ?_
  refine RL_do rfl rfl (Do_move (v := .pointer (some ⟨b1, 0, none⟩)) rfl) ?_
  refine RL_do rfl rfl (Do_move (v := .int .i64 p1) rfl) ?_
  obtain ⟨x7, e8, hF⟩ := bindO_some hF
  refine RL_call rfl rfl (DoC_func en35 rfl) (F_ref0_Ink_Int_w p0 p1 b1 v2 _ e8 _ _ _ (H.enter [0, 1] [2] (by decide) rfl)) ?_
  rintro _ w11 ⟨v9, rfl, G12⟩
  have H : Hd O _ w11 _ [.fz (.at 0 0 ((Fl.arr 20 (Fl.int .u64)).f G_internal_strconv_uint64pow10)), .own (Rp.int .u8) v9 5 x7.out, .blk b1 [v9] 34] := H.back [0, 1] [2] rfl G12
  refine ⟨_, rfl, ?_⟩
  have hR := Option.some.inj hF
  subst hR
  refine (RL_nil (post0n rfl ?_))
  exact ⟨v9, rfl, H.pick [1, 2] (by decide)⟩
end Go.Proofs.YtbjhondbheijiaaDoor.L
namespace Go.Proofs.YtbjhondbheijiaaDoor.L
open Go.RowKit Go.OB Go.Lf
/- (*orangebox/orangeboxref0.Ink).Told -/
set_option maxHeartbeats 4000000 in
theorem F_ref0_Ink_Told_w (p0 : Option Orangeboxref0Ink) (v1 : Option Addr) (r : Str) (hF : F_ref0_Ink_Told p0 = some r) (O S : List Nat) (w : World) (H : Hd O w w S [.fz (.pt rOrangeboxref0Ink v1 p0)]) :
    Calls Tryd.prog 16 ([.pointer v1] : List Value).toArray w fun e w' => e = .returned (.string (bs r)) ∧ Hd O w w' S [] := by
  unfold F_ref0_Ink_Told at hF
  refine calls_of_WP 8 Tryd.func16 rfl rfl rfl ?_
  refine WP_seq_k fun K3 hK3 => ?_
  refine WP_region ?_
  refine RL_do rfl rfl (Do_assign (v := .string (bs [])) rfl) ?_
  refine (RL_nil (thenQ_n (hK3 _ _ ?_)))
  refine WP_seq_k fun K4 hK4 => ?_
  refine WP_region ?_
  refine RL_do rfl rfl (Do_move (v := .pointer v1) rfl) ?_
  obtain ⟨x5, e6, hF⟩ := bindO_some hF
  obtain ⟨b7, o8, cs9, q10, h11, h12, h13, h14⟩ := ptf_some ((H.item (i := 0) rfl) : PtF _ _ _ _ _) e6
  obtain ⟨v15, rfl, h16⟩ := rOrangeboxref0Ink_open h13
  have H := H.fzs [.at b7 o8 _, .sl (Rp.int .u8) v15 x5.out] ⟨⟨h11, h12, h14⟩, h16, trivial⟩
  refine RL_do rfl rfl (Do_nilCheck (ad := ⟨b7, o8, none⟩) (congrArg Value.pointer q10)) ?_
  refine RL_do rfl rfl (fa34_0 rfl) ?_
  refine RL_do rfl rfl (Do_load one32 rfl (Cells.get (H.item (i := 1) rfl).2.2 (i := 0) rfl)) ?_
  obtain ⟨x19, e20, hF⟩ := letO_some hF
  refine RL_do rfl rfl (Do_as (Do_bytestr (xl := x5.out) u32 u5 u9 rfl (Sr.of_rd (H.item (i := 2) rfl))) (congrArg (fun s => Value.string (bs s)) e20)) ?_
  refine RL_do rfl rfl (Do_assign (v := .string (bs x19)) rfl) ?_
  refine (RL_nil (thenQ_n (hK4 _ _ ?_)))
  have hR := Option.some.inj hF
  subst hR
  refine (WP_ret (post1 (v1 := .string (bs x19)) rfl rfl ?_))
  exact ⟨rfl, H.pick [] (by decide)⟩
end Go.Proofs.YtbjhondbheijiaaDoor.L
namespace Go.Proofs.YtbjhondbheijiaaDoor.L
open Go.RowKit Go.OB Go.Lf
/- (*orangebox/orangeboxref0.Ink).Ints -/
set_option maxHeartbeats 4000000 in
theorem F_ref0_Ink_Ints_w (p0 : Orangeboxref0Ink) (p1 : List Int) (b1 : Nat) (v2 : Value) (v5 : Value) (r : Orangeboxref0Ink) (hF : F_ref0_Ink_Ints p0 p1 = some r) (O S : List Nat) (w : World) (H : Hd O w w S [.own (Rp.int .u8) v2 5 p0.out, .blk b1 [v2] 34, .fz (.sl (Rp.int .i64) v5 p1), .fz (.at 0 0 ((Fl.arr 20 (Fl.int .u64)).f G_internal_strconv_uint64pow10))]) :
    Calls Tryd.prog 72 ([.pointer (some ⟨b1, 0, none⟩), v5] : List Value).toArray w fun e w' => ∃ u8, e = .returned (.tuple #[]) ∧ Hd O w w' S [.own (Rp.int .u8) u8 5 r.out, .blk b1 [u8] 34] := by
  unfold F_ref0_Ink_Ints at hF
  refine calls_of_WP 21 Tryd.func72 rfl rfl rfl ?_
  refine WP_seq_k fun K9 hK9 => ?_
  refine WP_region ?_
  refine RL_do rfl rfl (Do_move (v := .pointer (some ⟨b1, 0, none⟩)) rfl) ?_
  refine RL_do rfl rfl (Do_move (v := v5) rfl) ?_
  obtain ⟨x10, e11, hF⟩ := letO_some hF
  obtain ⟨a12, c13, q14⟩ := SlF.len ((H.item (i := 2) rfl))
  refine RL_do rfl rfl (Do_as (Do_len u23 q14) (congrArg (Value.int .i64) e11)) ?_
  obtain ⟨x15, e16, hF⟩ := bindO_some hF
  refine RL_call rfl rfl (DoC_func en35 rfl) (F_ref0_Ink_Int_w p0 x10 b1 v2 _ e16 _ _ _ (H.enter [0, 1] [3] (by decide) rfl)) ?_
  rintro _ w19 ⟨v17, rfl, G20⟩
  have H : Hd O _ w19 _ [.fz (.sl (Rp.int .i64) v5 p1), .fz (.at 0 0 ((Fl.arr 20 (Fl.int .u64)).f G_internal_strconv_uint64pow10)), .own (Rp.int .u8) v17 5 x15.out, .blk b1 [v17] 34] := H.back [0, 1] [3] rfl G20
  refine ⟨_, rfl, ?_⟩
  refine (RL_nil (thenQ_n (hK9 _ _ ?_)))
  refine WP_seq_k fun K21 hK21 => ?_
  refine WP_region ?_
  refine RL_do rfl rfl (Do_assign (v := .int .i64 0) rfl) ?_
  refine (RL_nil (thenQ_n (hK21 _ _ ?_)))
  refine WP_block ?_
  unfold F_ref0_Ink_Ints_L1 at hF
  obtain ⟨B146, n147, eB148, hF⟩ := loopO_some hF
  refine WP_loopS [4, 9, 10, 11, 12, 13, 14, 15, 16, 17, 18, 19, 20] (fun (g : Nat × Int × (List Int) × Value) => [(4, .int .i64 g.2.1)]) (fun g wl => Hd O w wl S [.fz (.sl (Rp.int .i64) v5 p1), .fz (.at 0 0 ((Fl.arr 20 (Fl.int .u64)).f G_internal_strconv_uint64pow10)), .blk b1 [g.2.2.2] 34, .own (Rp.int .u8) g.2.2.2 5 g.2.2.1] ∧ loopN B146 g.1 (g.2.1, g.2.2.1) = some r) (fun g => g.1) (n147, 0, x15.out, v17) (Sl_cons rfl Sl_nil) ⟨H.pick [0, 1, 3, 2] (by decide), hF⟩ ?_
  clear H hF
  rintro ⟨n147, g142, g144, v145⟩ ρ w150 ⟨H, hF⟩
  obtain ⟨n151, rfl, hF⟩ := loopN_pos hF
  have hF := loop_body eB148 hF
  refine WP_seq_k fun K161 hK161 => ?_
  refine WP_seq_k fun K162 hK162 => ?_
  refine WP_region ?_
  refine RL_do rfl rfl (Do_move (v := .int .i64 g142) rfl) ?_
  refine RL_do rfl rfl (Do_move (v := v5) rfl) ?_
  obtain ⟨x163, e164, hF⟩ := letO_some hF
  obtain ⟨a165, c166, q167⟩ := SlF.len ((H.item (i := 0) rfl))
  refine RL_do rfl rfl (Do_as (Do_len u23 q167) (congrArg (Value.int .i64) e164)) ?_
  obtain ⟨x168, e169, hF⟩ := letO_some hF
  refine RL_do rfl rfl (Do_as (Do_lss (a := g142) (b := x163) rfl rfl) (congrArg Value.bool e169)) ?_
  refine (RL_nil (thenQ_n (hK162 _ _ ?_)))
  refine WP_ifb (b := x168) rfl (fun c170 => ?_) (fun c170 => ?_)
  · have hF := iteB_t c170 hF
    refine (WP_skip (thenQ_n (hK161 _ _ ?_)))
    refine WP_seq_k fun K189 hK189 => ?_
    refine WP_block ?_
    refine WP_region ?_
    refine RL_do rfl rfl (Do_move (v := .pointer (some ⟨b1, 0, none⟩)) rfl) ?_
    refine RL_do rfl rfl (Do_move (v := v5) rfl) ?_
    refine RL_do rfl rfl (Do_move (v := .int .i64 g142) rfl) ?_
    obtain ⟨x190, e191, hF⟩ := bindO_some hF
    obtain ⟨b192, o193, c194, cs195, q196, h199, h197, h198, h200⟩ := rd_at (H.item (i := 0) rfl) e191
    obtain rfl : cs195 = [.int .i64 x190] := h199
    have H := H.fz (.at b192 (o193 + g142.toNat * 1) _) ⟨h197, h198, h200⟩
    refine RL_do rfl rfl (Do_idx u23 sz3 q196 rfl (at_some e191).1 (at_some e191).2.1 rfl rfl) ?_
    refine RL_do rfl rfl (Do_load one3 rfl (Cells.get (H.item (i := 4) rfl).2.2 (i := 0) rfl)) ?_
    obtain ⟨x202, e203, hF⟩ := bindO_some hF
    refine RL_call rfl rfl (DoC_func en35 rfl) (F_ref0_Ink_Int_w (Orangeboxref0Ink.mk g144) x190 b1 v145 _ e203 _ _ _ (H.enter [3, 2] [1] (by decide) rfl)) ?_
    rintro _ w206 ⟨v204, rfl, G207⟩
    have H : Hd O _ w206 _ [.fz (.sl (Rp.int .i64) v5 p1), .fz (.at 0 0 ((Fl.arr 20 (Fl.int .u64)).f G_internal_strconv_uint64pow10)), .fz (.at b192 (o193 + g142.toNat * 1) [.int .i64 x190]), .own (Rp.int .u8) v204 5 x202.out, .blk b1 [v204] 34] := H.back [3, 2] [1] rfl G207
    refine ⟨_, rfl, ?_⟩
    refine (RL_nil (blockQ_n (thenQ_n (hK189 _ _ ?_))))
    refine WP_region ?_
    refine RL_do rfl rfl (Do_move (v := .int .i64 g142) rfl) ?_
    obtain ⟨x208, e209, hF⟩ := letO_some hF
    refine RL_do rfl rfl (Do_add (a := g142) (b := 1) rfl rfl e209) ?_
    refine RL_do rfl rfl (Do_assign (v := .int .i64 x208) rfl) ?_
    refine (RL_nil (thenQ_n (And.intro ?_ ?_)))
    · repeat' (first | with_reducible exact Fr_refl | refine Fr_upd rfl ?_ | refine Fr_over rfl rfl ?_)
    · exact ⟨(n151, x208, x202.out, v204), (Sl_cons rfl Sl_nil), ⟨H.pick [0, 1, 4, 3] (by decide), hF⟩, Nat.lt_succ_self _⟩
  · have hF := iteB_f c170 hF
    have hR := Option.some.inj hF
    subst hR
    refine (WP_exit (thenQ_x (thenQ_x (blockQ_eq (post0n rfl ?_)))))
    exact ⟨v145, rfl, H.pick [3, 2] (by decide)⟩
end Go.Proofs.YtbjhondbheijiaaDoor.L
namespace Go.Proofs.YtbjhondbheijiaaDoor.L
open Go.RowKit Go.OB Go.Lf
/- (*orangebox/orangeboxref0.Ink).Text -/
set_option maxHeartbeats 4000000 in
theorem F_ref0_Ink_Text_w (p0 : Orangeboxref0Ink) (p1 : Str) (b1 : Nat) (v2 : Value) (r : Orangeboxref0Ink) (hF : F_ref0_Ink_Text p0 p1 = some r) (O S : List Nat) (w : World) (H : Hd O w w S [.own (Rp.int .u8) v2 5 p0.out, .blk b1 [v2] 34, .fz (.at 0 0 ((Fl.arr 20 (Fl.int .u64)).f G_internal_strconv_uint64pow10))]) :
    Calls Tryd.prog 36 ([.pointer (some ⟨b1, 0, none⟩), .string (bs p1)] : List Value).toArray w fun e w' => ∃ u6, e = .returned (.tuple #[]) ∧ Hd O w w' S [.own (Rp.int .u8) u6 5 r.out, .blk b1 [u6] 34] := by
  unfold F_ref0_Ink_Text at hF
  refine calls_of_WP 17 Tryd.func36 rfl rfl rfl ?_
  refine WP_seq_k fun K7 hK7 => ?_
  refine WP_region ?_
  refine RL_do rfl rfl (Do_move (v := .pointer (some ⟨b1, 0, none⟩)) rfl) ?_
  refine RL_do rfl rfl (Do_move (v := .string (bs p1)) rfl) ?_
  obtain ⟨x8, e9, hF⟩ := letO_some hF
  refine RL_do rfl rfl (Do_as (Do_slen (s1 := p1) u9 rfl) (congrArg (Value.int .i64) e9)) ?_
  obtain ⟨x10, e11, hF⟩ := bindO_some hF
  refine RL_call rfl rfl (DoC_func en35 rfl) (F_ref0_Ink_Int_w p0 x8 b1 v2 _ e11 _ _ _ (H.enter [0, 1] [2] (by decide) rfl)) ?_
  rintro _ w14 ⟨v12, rfl, G15⟩
  have H : Hd O _ w14 _ [.fz (.at 0 0 ((Fl.arr 20 (Fl.int .u64)).f G_internal_strconv_uint64pow10)), .own (Rp.int .u8) v12 5 x10.out, .blk b1 [v12] 34] := H.back [0, 1] [2] rfl G15
  refine ⟨_, rfl, ?_⟩
  refine (RL_nil (thenQ_n (hK7 _ _ ?_)))
  refine WP_region ?_
  refine RL_do rfl rfl (Do_move (v := .pointer (some ⟨b1, 0, none⟩)) rfl) ?_
  refine RL_do rfl rfl (Do_move (v := .pointer (some ⟨b1, 0, none⟩)) rfl) ?_
  refine RL_do rfl rfl (Do_nilCheck rfl) ?_
  refine RL_do rfl rfl (fa34_0 rfl) ?_
  refine RL_do rfl rfl (Do_load one32 rfl (Cells.get (Blk.cells (H.item (i := 2) rfl)) (i := 0) rfl)) ?_
  refine RL_do rfl rfl (Do_move (v := .string (bs p1)) rfl) ?_
  obtain ⟨x16, e17, hF⟩ := bindO_some hF
  refine RL_ex rfl rfl (Lx_appstr H (i := 1) rfl u32 u9 z8_5 rfl rfl e17) ?_
  rintro v18 w19 H
  refine RL_do rfl rfl (Do_nilCheck rfl) ?_
  refine RL_do rfl rfl (fa34_0 rfl) ?_
  refine RL_exU rfl (Lx_store1 H 2 rfl sz32 rfl (v := v18) rfl (own_one (H.item (i := 1) rfl)) rfl) ?_
  rintro w20 H
  have hR := Option.some.inj hF
  subst hR
  refine (RL_nil (post0n rfl ?_))
  exact ⟨v18, rfl, H.pick [1, 2] (by decide)⟩
end Go.Proofs.YtbjhondbheijiaaDoor.L
namespace Go.Proofs.YtbjhondbheijiaaDoor.L
open Go.RowKit Go.OB Go.Lf
/- (*orangebox/orangeboxref0.Ink).Texts -/
set_option maxHeartbeats 4000000 in
theorem F_ref0_Ink_Texts_w (p0 : Orangeboxref0Ink) (p1 : List Str) (b1 : Nat) (v2 : Value) (v5 : Value) (r : Orangeboxref0Ink) (hF : F_ref0_Ink_Texts p0 p1 = some r) (O S : List Nat) (w : World) (H : Hd O w w S [.own (Rp.int .u8) v2 5 p0.out, .blk b1 [v2] 34, .fz (.sl Rp.str v5 p1), .fz (.at 0 0 ((Fl.arr 20 (Fl.int .u64)).f G_internal_strconv_uint64pow10))]) :
    Calls Tryd.prog 12 ([.pointer (some ⟨b1, 0, none⟩), v5] : List Value).toArray w fun e w' => ∃ u8, e = .returned (.tuple #[]) ∧ Hd O w w' S [.own (Rp.int .u8) u8 5 r.out, .blk b1 [u8] 34] := by
  unfold F_ref0_Ink_Texts at hF
  refine calls_of_WP 21 Tryd.func12 rfl rfl rfl ?_
  refine WP_seq_k fun K9 hK9 => ?_
  refine WP_region ?_
  refine RL_do rfl rfl (Do_move (v := .pointer (some ⟨b1, 0, none⟩)) rfl) ?_
  refine RL_do rfl rfl (Do_move (v := v5) rfl) ?_
  obtain ⟨x10, e11, hF⟩ := letO_some hF
  obtain ⟨a12, c13, q14⟩ := SlF.len ((H.item (i := 2) rfl))
  refine RL_do rfl rfl (Do_as (Do_len u35 q14) (congrArg (Value.int .i64) e11)) ?_
  obtain ⟨x15, e16, hF⟩ := bindO_some hF
  refine RL_call rfl rfl (DoC_func en35 rfl) (F_ref0_Ink_Int_w p0 x10 b1 v2 _ e16 _ _ _ (H.enter [0, 1] [3] (by decide) rfl)) ?_
  rintro _ w19 ⟨v17, rfl, G20⟩
  have H : Hd O _ w19 _ [.fz (.sl Rp.str v5 p1), .fz (.at 0 0 ((Fl.arr 20 (Fl.int .u64)).f G_internal_strconv_uint64pow10)), .own (Rp.int .u8) v17 5 x15.out, .blk b1 [v17] 34] := H.back [0, 1] [3] rfl G20
  refine ⟨_, rfl, ?_⟩
  refine (RL_nil (thenQ_n (hK9 _ _ ?_)))
  refine WP_seq_k fun K21 hK21 => ?_
  refine WP_region ?_
  refine RL_do rfl rfl (Do_assign (v := .int .i64 0) rfl) ?_
  refine (RL_nil (thenQ_n (hK21 _ _ ?_)))
  refine WP_block ?_
  unfold F_ref0_Ink_Texts_L1 at hF
  obtain ⟨B146, n147, eB148, hF⟩ := loopO_some hF
  refine WP_loopS [4, 9, 10, 11, 12, 13, 14, 15, 16, 17, 18, 19, 20] (fun (g : Nat × Int × (List Int) × Value) => [(4, .int .i64 g.2.1)]) (fun g wl => Hd O w wl S [.fz (.sl Rp.str v5 p1), .fz (.at 0 0 ((Fl.arr 20 (Fl.int .u64)).f G_internal_strconv_uint64pow10)), .blk b1 [g.2.2.2] 34, .own (Rp.int .u8) g.2.2.2 5 g.2.2.1] ∧ loopN B146 g.1 (g.2.1, g.2.2.1) = some r) (fun g => g.1) (n147, 0, x15.out, v17) (Sl_cons rfl Sl_nil) ⟨H.pick [0, 1, 3, 2] (by decide), hF⟩ ?_
  clear H hF
  rintro ⟨n147, g142, g144, v145⟩ ρ w150 ⟨H, hF⟩
  obtain ⟨n151, rfl, hF⟩ := loopN_pos hF
  have hF := loop_body eB148 hF
  refine WP_seq_k fun K161 hK161 => ?_
  refine WP_seq_k fun K162 hK162 => ?_
  refine WP_region ?_
  refine RL_do rfl rfl (Do_move (v := .int .i64 g142) rfl) ?_
  refine RL_do rfl rfl (Do_move (v := v5) rfl) ?_
  obtain ⟨x163, e164, hF⟩ := letO_some hF
  obtain ⟨a165, c166, q167⟩ := SlF.len ((H.item (i := 0) rfl))
  refine RL_do rfl rfl (Do_as (Do_len u35 q167) (congrArg (Value.int .i64) e164)) ?_
  obtain ⟨x168, e169, hF⟩ := letO_some hF
  refine RL_do rfl rfl (Do_as (Do_lss (a := g142) (b := x163) rfl rfl) (congrArg Value.bool e169)) ?_
  refine (RL_nil (thenQ_n (hK162 _ _ ?_)))
  refine WP_ifb (b := x168) rfl (fun c170 => ?_) (fun c170 => ?_)
  · have hF := iteB_t c170 hF
    refine (WP_skip (thenQ_n (hK161 _ _ ?_)))
    refine WP_seq_k fun K189 hK189 => ?_
    refine WP_block ?_
    refine WP_region ?_
    refine RL_do rfl rfl (Do_move (v := .pointer (some ⟨b1, 0, none⟩)) rfl) ?_
    refine RL_do rfl rfl (Do_move (v := v5) rfl) ?_
    refine RL_do rfl rfl (Do_move (v := .int .i64 g142) rfl) ?_
    obtain ⟨x190, e191, hF⟩ := bindO_some hF
    obtain ⟨b192, o193, c194, cs195, q196, h199, h197, h198, h200⟩ := rd_at (H.item (i := 0) rfl) e191
    obtain rfl : cs195 = [.string (bs x190)] := h199
    have H := H.fz (.at b192 (o193 + g142.toNat * 1) _) ⟨h197, h198, h200⟩
    refine RL_do rfl rfl (Do_idx u35 sz9 q196 rfl (at_some e191).1 (at_some e191).2.1 rfl rfl) ?_
    refine RL_do rfl rfl (Do_load one9 rfl (Cells.get (H.item (i := 4) rfl).2.2 (i := 0) rfl)) ?_
    obtain ⟨x202, e203, hF⟩ := bindO_some hF
    refine RL_call rfl rfl (DoC_func en36 rfl) (F_ref0_Ink_Text_w (Orangeboxref0Ink.mk g144) x190 b1 v145 _ e203 _ _ _ (H.enter [3, 2] [1] (by decide) rfl)) ?_
    rintro _ w206 ⟨v204, rfl, G207⟩
    have H : Hd O _ w206 _ [.fz (.sl Rp.str v5 p1), .fz (.at 0 0 ((Fl.arr 20 (Fl.int .u64)).f G_internal_strconv_uint64pow10)), .fz (.at b192 (o193 + g142.toNat * 1) [.string (bs x190)]), .own (Rp.int .u8) v204 5 x202.out, .blk b1 [v204] 34] := H.back [3, 2] [1] rfl G207
    refine ⟨_, rfl, ?_⟩
    refine (RL_nil (blockQ_n (thenQ_n (hK189 _ _ ?_))))
    refine WP_region ?_
    refine RL_do rfl rfl (Do_move (v := .int .i64 g142) rfl) ?_
    obtain ⟨x208, e209, hF⟩ := letO_some hF
    refine RL_do rfl rfl (Do_add (a := g142) (b := 1) rfl rfl e209) ?_
    refine RL_do rfl rfl (Do_assign (v := .int .i64 x208) rfl) ?_
    refine (RL_nil (thenQ_n (And.intro ?_ ?_)))
    · repeat' (first | with_reducible exact Fr_refl | refine Fr_upd rfl ?_ | refine Fr_over rfl rfl ?_)
    · exact ⟨(n151, x208, x202.out, v204), (Sl_cons rfl Sl_nil), ⟨H.pick [0, 1, 4, 3] (by decide), hF⟩, Nat.lt_succ_self _⟩
  · have hF := iteB_f c170 hF
    have hR := Option.some.inj hF
    subst hR
    refine (WP_exit (thenQ_x (thenQ_x (blockQ_eq (post0n rfl ?_)))))
    exact ⟨v145, rfl, H.pick [3, 2] (by decide)⟩
end Go.Proofs.YtbjhondbheijiaaDoor.L
namespace Go.Proofs.YtbjhondbheijiaaDoor.L
open Go.RowKit Go.OB Go.Lf
/- (*orangebox/orangeboxref0.Ink).Sample -/
set_option maxHeartbeats 4000000 in
theorem F_ref0_Ink_Sample_w (p0 : Orangeboxref0Ink) (p1 : Sample) (b1 : Nat) (v2 : Value) (r : Orangeboxref0Ink) (hF : F_ref0_Ink_Sample p0 p1 = some r) (O S : List Nat) (w : World) (H : Hd O w w S [.own (Rp.int .u8) v2 5 p0.out, .blk b1 [v2] 34, .fz (.at 0 0 ((Fl.arr 20 (Fl.int .u64)).f G_internal_strconv_uint64pow10))]) :
    Calls Tryd.prog 98 ([.pointer (some ⟨b1, 0, none⟩), .agg [.int .i64 p1.At, .int .i64 p1.N, .int .i64 p1.Mark].toArray] : List Value).toArray w fun e w' => ∃ u6, e = .returned (.tuple #[]) ∧ Hd O w w' S [.own (Rp.int .u8) u6 5 r.out, .blk b1 [u6] 34] := by
  unfold F_ref0_Ink_Sample at hF
  refine calls_of_WP 13 Tryd.func98 rfl rfl rfl ?_
  refine WP_seq_k fun K7 hK7 => ?_
  refine WP_region ?_
  refine RL_ex rfl rfl (Lx_box (cs := [.int .i64 p1.At, .int .i64 p1.N, .int .i64 p1.Mark]) rfl H) ?_
  rintro _ w10 ⟨b8, rfl, H⟩
  refine (RL_nil (thenQ_n (hK7 _ _ ?_)))
  refine WP_region ?_
  refine RL_do rfl rfl (Do_move (v := .pointer (some ⟨b1, 0, none⟩)) rfl) ?_
  refine RL_do rfl rfl (fa99_0 rfl) ?_
  refine RL_do rfl rfl (Do_load one3 rfl (Cells.get (Blk.cells (H.item (i := 3) rfl)) (i := 0) rfl)) ?_
  refine RL_do rfl rfl (fa99_1 rfl) ?_
  refine RL_do rfl rfl (Do_load one3 rfl (Cells.get (Blk.cells (H.item (i := 3) rfl)) (i := 1) rfl)) ?_
  refine RL_do rfl rfl (fa99_2 rfl) ?_
  refine RL_do rfl rfl (Do_load one3 rfl (Cells.get (Blk.cells (H.item (i := 3) rfl)) (i := 2) rfl)) ?_
  obtain ⟨x11, e12, hF⟩ := letO_some hF
  subst e12
  refine RL_ex rfl rfl (Lx_bs (r := (Rp.int .i64)) (xl := [p1.At, p1.N, p1.Mark]) (cs := [.int .i64 p1.At, .int .i64 p1.N, .int .i64 p1.Mark]) u23 el3 (by decide) (by decide) rfl (fillB_parts (vs := [.int .i64 p1.At, .int .i64 p1.N, .int .i64 p1.Mark]) (by decide) rfl rfl ⟨rfl, rfl, rfl, trivial⟩ rfl) H ⟨[.int .i64 p1.At], [.int .i64 p1.N, .int .i64 p1.Mark], rfl, rfl, ⟨[.int .i64 p1.N], [.int .i64 p1.Mark], rfl, rfl, ⟨[.int .i64 p1.Mark], [], rfl, rfl, rfl⟩⟩⟩) ?_
  rintro v14 w15 H
  have H := H.freeze (i := 4) rfl
  obtain ⟨x16, e17, hF⟩ := bindO_some hF
  refine RL_call rfl rfl (DoC_func en72 rfl) (F_ref0_Ink_Ints_w p0 ([p1.At, p1.N, p1.Mark] : List Int) b1 v2 v14 _ e17 _ _ _ (H.enter [0, 1] [4, 2] (by decide) rfl)) ?_
  rintro _ w20 ⟨v18, rfl, G21⟩
  have H : Hd O _ w20 _ [.fz (.at 0 0 ((Fl.arr 20 (Fl.int .u64)).f G_internal_strconv_uint64pow10)), .blk b8 [.int .i64 p1.At, .int .i64 p1.N, .int .i64 p1.Mark] 99, .fz (.sl (Rp.int .i64) v14 ([p1.At, p1.N, p1.Mark] : List Int)), .own (Rp.int .u8) v18 5 x16.out, .blk b1 [v18] 34] := H.back [0, 1] [4, 2] rfl G21
  refine ⟨_, rfl, ?_⟩
  have hR := Option.some.inj hF
  subst hR
  refine (RL_nil (post0n rfl ?_))
  exact ⟨v18, rfl, H.pick [3, 4] (by decide)⟩
end Go.Proofs.YtbjhondbheijiaaDoor.L
namespace Go.Proofs.YtbjhondbheijiaaDoor.L
open Go.RowKit Go.OB Go.Lf
/- (*orangebox/orangeboxref0.Ink).Series -/
set_option maxHeartbeats 4000000 in
theorem F_ref0_Ink_Series_w (p0 : Orangeboxref0Ink) (p1 : Series) (b1 : Nat) (v2 : Value) (v5 : Value) (r : Orangeboxref0Ink) (hF : F_ref0_Ink_Series p0 p1 = some r) (O S : List Nat) (w : World) (H : Hd O w w S [.own (Rp.int .u8) v2 5 p0.out, .blk b1 [v2] 34, .fz (.sl rSample v5 p1.Samples), .fz (.at 0 0 ((Fl.arr 20 (Fl.int .u64)).f G_internal_strconv_uint64pow10))]) :
    Calls Tryd.prog 87 ([.pointer (some ⟨b1, 0, none⟩), .agg [.int .i64 p1.Den, v5].toArray] : List Value).toArray w fun e w' => ∃ u8, e = .returned (.tuple #[]) ∧ Hd O w w' S [.own (Rp.int .u8) u8 5 r.out, .blk b1 [u8] 34] := by
  unfold F_ref0_Ink_Series at hF
  refine calls_of_WP 28 Tryd.func87 rfl rfl rfl ?_
  refine WP_seq_k fun K9 hK9 => ?_
  refine WP_region ?_
  refine RL_ex rfl rfl (Lx_box (cs := [.int .i64 p1.Den, v5]) rfl H) ?_
  rintro _ w12 ⟨b10, rfl, H⟩
  refine (RL_nil (thenQ_n (hK9 _ _ ?_)))
  refine WP_seq_k fun K13 hK13 => ?_
  refine WP_region ?_
  refine RL_do rfl rfl (Do_move (v := .pointer (some ⟨b1, 0, none⟩)) rfl) ?_
  refine RL_do rfl rfl (fa93_0 rfl) ?_
  refine RL_do rfl rfl (Do_load one3 rfl (Cells.get (Blk.cells (H.item (i := 4) rfl)) (i := 0) rfl)) ?_
  obtain ⟨x14, e15, hF⟩ := bindO_some hF
  refine RL_call rfl rfl (DoC_func en35 rfl) (F_ref0_Ink_Int_w p0 p1.Den b1 v2 _ e15 _ _ _ (H.enter [0, 1] [3] (by decide) rfl)) ?_
  rintro _ w18 ⟨v16, rfl, G19⟩
  have H : Hd O _ w18 _ [.fz (.sl rSample v5 p1.Samples), .fz (.at 0 0 ((Fl.arr 20 (Fl.int .u64)).f G_internal_strconv_uint64pow10)), .blk b10 [.int .i64 p1.Den, v5] 93, .own (Rp.int .u8) v16 5 x14.out, .blk b1 [v16] 34] := H.back [0, 1] [3] rfl G19
  refine ⟨_, rfl, ?_⟩
  refine (RL_nil (thenQ_n (hK13 _ _ ?_)))
  refine WP_seq_k fun K20 hK20 => ?_
  refine WP_region ?_
  refine RL_do rfl rfl (Do_move (v := .pointer (some ⟨b1, 0, none⟩)) rfl) ?_
  refine RL_do rfl rfl (fa93_1 rfl) ?_
  refine RL_do rfl rfl (Do_load one91 rfl (Cells.get (Blk.cells (H.item (i := 2) rfl)) (i := 1) rfl)) ?_
  obtain ⟨x21, e22, hF⟩ := letO_some hF
  obtain ⟨a23, c24, q25⟩ := SlF.len ((H.item (i := 0) rfl))
  refine RL_do rfl rfl (Do_as (Do_len u91 q25) (congrArg (Value.int .i64) e22)) ?_
  obtain ⟨x26, e27, hF⟩ := bindO_some hF
  refine RL_call rfl rfl (DoC_func en35 rfl) (F_ref0_Ink_Int_w x14 x21 b1 v16 _ e27 _ _ _ (H.enter [3, 4] [1] (by decide) rfl)) ?_
  rintro _ w30 ⟨v28, rfl, G31⟩
  have H : Hd O _ w30 _ [.fz (.sl rSample v5 p1.Samples), .fz (.at 0 0 ((Fl.arr 20 (Fl.int .u64)).f G_internal_strconv_uint64pow10)), .blk b10 [.int .i64 p1.Den, v5] 93, .own (Rp.int .u8) v28 5 x26.out, .blk b1 [v28] 34] := H.back [3, 4] [1] rfl G31
  refine ⟨_, rfl, ?_⟩
  refine (RL_nil (thenQ_n (hK20 _ _ ?_)))
  refine WP_seq_k fun K32 hK32 => ?_
  refine WP_region ?_
  refine RL_do rfl rfl (Do_assign (v := .int .i64 0) rfl) ?_
  refine (RL_nil (thenQ_n (hK32 _ _ ?_)))
  refine WP_block ?_
  unfold F_ref0_Ink_Series_L1 at hF
  obtain ⟨B157, n158, eB159, hF⟩ := loopO_some hF
  refine WP_loopS [4, 14, 15, 16, 17, 18, 19, 20, 21, 22, 23, 24, 25, 26, 27] (fun (g : Nat × Int × (List Int) × Value) => [(4, .int .i64 g.2.1)]) (fun g wl => Hd O w wl S [.fz (.at 0 0 ((Fl.arr 20 (Fl.int .u64)).f G_internal_strconv_uint64pow10)), .blk b10 [.int .i64 p1.Den, v5] 93, .fz (.sl rSample v5 p1.Samples), .blk b1 [g.2.2.2] 34, .own (Rp.int .u8) g.2.2.2 5 g.2.2.1] ∧ loopN B157 g.1 (g.2.1, g.2.2.1) = some r) (fun g => g.1) (n158, 0, x26.out, v28) (Sl_cons rfl Sl_nil) ⟨H.pick [1, 2, 0, 4, 3] (by decide), hF⟩ ?_
  clear H hF
  rintro ⟨n158, g153, g155, v156⟩ ρ w161 ⟨H, hF⟩
  obtain ⟨n162, rfl, hF⟩ := loopN_pos hF
  have hF := loop_body eB159 hF
  refine WP_seq_k fun K172 hK172 => ?_
  refine WP_seq_k fun K173 hK173 => ?_
  refine WP_region ?_
  refine RL_do rfl rfl (Do_move (v := .int .i64 g153) rfl) ?_
  refine RL_do rfl rfl (fa93_1 rfl) ?_
  refine RL_do rfl rfl (Do_load one91 rfl (Cells.get (Blk.cells (H.item (i := 1) rfl)) (i := 1) rfl)) ?_
  obtain ⟨x174, e175, hF⟩ := letO_some hF
  obtain ⟨a176, c177, q178⟩ := SlF.len ((H.item (i := 2) rfl))
  refine RL_do rfl rfl (Do_as (Do_len u91 q178) (congrArg (Value.int .i64) e175)) ?_
  obtain ⟨x179, e180, hF⟩ := letO_some hF
  refine RL_do rfl rfl (Do_as (Do_lss (a := g153) (b := x174) rfl rfl) (congrArg Value.bool e180)) ?_
  refine (RL_nil (thenQ_n (hK173 _ _ ?_)))
  refine WP_ifb (b := x179) rfl (fun c181 => ?_) (fun c181 => ?_)
  · have hF := iteB_t c181 hF
    refine (WP_skip (thenQ_n (hK172 _ _ ?_)))
    refine WP_seq_k fun K200 hK200 => ?_
    refine WP_block ?_
    refine WP_region ?_
    refine RL_do rfl rfl (Do_move (v := .pointer (some ⟨b1, 0, none⟩)) rfl) ?_
    refine RL_do rfl rfl (fa93_1 rfl) ?_
    refine RL_do rfl rfl (Do_load one91 rfl (Cells.get (Blk.cells (H.item (i := 1) rfl)) (i := 1) rfl)) ?_
    refine RL_do rfl rfl (Do_move (v := .int .i64 g153) rfl) ?_
    obtain ⟨x201, e202, hF⟩ := bindO_some hF
    obtain ⟨b203, o204, c205, cs206, q207, h210, h208, h209, h211⟩ := rd_at (H.item (i := 2) rfl) e202
    obtain rfl := rSample_open h210
    have H := H.fz (.at b203 (o204 + g153.toNat * 3) _) ⟨h208, h209, h211⟩
    refine RL_do rfl rfl (Do_idx u91 sz99 q207 rfl (at_some e202).1 (at_some e202).2.1 rfl rfl) ?_
    refine RL_do rfl rfl (Do_as (Do_loads (cs := [.int .i64 x201.At, .int .i64 x201.N, .int .i64 x201.Mark]) agg99 rfl sz99 rfl (H.item (i := 5) rfl).2.2) rfl) ?_
    obtain ⟨x213, e214, hF⟩ := bindO_some hF
    refine RL_call rfl rfl (DoC_func en98 rfl) (F_ref0_Ink_Sample_w (Orangeboxref0Ink.mk g155) x201 b1 v156 _ e214 _ _ _ (H.enter [4, 3] [0] (by decide) rfl)) ?_
    rintro _ w217 ⟨v215, rfl, G218⟩
    have H : Hd O _ w217 _ [.fz (.at 0 0 ((Fl.arr 20 (Fl.int .u64)).f G_internal_strconv_uint64pow10)), .blk b10 [.int .i64 p1.Den, v5] 93, .fz (.sl rSample v5 p1.Samples), .fz (.at b203 (o204 + g153.toNat * 3) [.int .i64 x201.At, .int .i64 x201.N, .int .i64 x201.Mark]), .own (Rp.int .u8) v215 5 x213.out, .blk b1 [v215] 34] := H.back [4, 3] [0] rfl G218
    refine ⟨_, rfl, ?_⟩
    refine (RL_nil (blockQ_n (thenQ_n (hK200 _ _ ?_))))
    refine WP_region ?_
    refine RL_do rfl rfl (Do_move (v := .int .i64 g153) rfl) ?_
    obtain ⟨x219, e220, hF⟩ := letO_some hF
    refine RL_do rfl rfl (Do_add (a := g153) (b := 1) rfl rfl e220) ?_
    refine RL_do rfl rfl (Do_assign (v := .int .i64 x219) rfl) ?_
    refine (RL_nil (thenQ_n (And.intro ?_ ?_)))
    · repeat' (first | with_reducible exact Fr_refl | refine Fr_upd rfl ?_ | refine Fr_over rfl rfl ?_)
    · exact ⟨(n162, x219, x213.out, v215), (Sl_cons rfl Sl_nil), ⟨H.pick [0, 1, 2, 5, 4] (by decide), hF⟩, Nat.lt_succ_self _⟩
  · have hF := iteB_f c181 hF
    have hR := Option.some.inj hF
    subst hR
    refine (WP_exit (thenQ_x (thenQ_x (blockQ_eq (post0n rfl ?_)))))
    exact ⟨v156, rfl, H.pick [4, 3] (by decide)⟩
end Go.Proofs.YtbjhondbheijiaaDoor.L
namespace Go.Proofs.YtbjhondbheijiaaDoor.L
open Go.RowKit Go.OB Go.Lf
/- (*orangebox/orangeboxref0.Ink).Tracks -/
set_option maxHeartbeats 4000000 in
theorem F_ref0_Ink_Tracks_w (p0 : Orangeboxref0Ink) (p1 : List Track) (b1 : Nat) (v2 : Value) (v5 : Value) (r : Orangeboxref0Ink) (hF : F_ref0_Ink_Tracks p0 p1 = some r) (O S : List Nat) (w : World) (H : Hd O w w S [.own (Rp.int .u8) v2 5 p0.out, .blk b1 [v2] 34, .fz (.sl rTrack v5 p1), .fz (.at 0 0 ((Fl.arr 20 (Fl.int .u64)).f G_internal_strconv_uint64pow10))]) :
    Calls Tryd.prog 73 ([.pointer (some ⟨b1, 0, none⟩), v5] : List Value).toArray w fun e w' => ∃ u8, e = .returned (.tuple #[]) ∧ Hd O w w' S [.own (Rp.int .u8) u8 5 r.out, .blk b1 [u8] 34] := by
  unfold F_ref0_Ink_Tracks at hF
  refine calls_of_WP 36 Tryd.func73 rfl rfl rfl ?_
  refine WP_seq_k fun K9 hK9 => ?_
  refine WP_region ?_
  refine RL_do rfl rfl (Do_move (v := .pointer (some ⟨b1, 0, none⟩)) rfl) ?_
  refine RL_do rfl rfl (Do_move (v := v5) rfl) ?_
  obtain ⟨x10, e11, hF⟩ := letO_some hF
  obtain ⟨a12, c13, q14⟩ := SlF.len ((H.item (i := 2) rfl))
  refine RL_do rfl rfl (Do_as (Do_len u45 q14) (congrArg (Value.int .i64) e11)) ?_
  obtain ⟨x15, e16, hF⟩ := bindO_some hF
  refine RL_call rfl rfl (DoC_func en35 rfl) (F_ref0_Ink_Int_w p0 x10 b1 v2 _ e16 _ _ _ (H.enter [0, 1] [3] (by decide) rfl)) ?_
  rintro _ w19 ⟨v17, rfl, G20⟩
  have H : Hd O _ w19 _ [.fz (.sl rTrack v5 p1), .fz (.at 0 0 ((Fl.arr 20 (Fl.int .u64)).f G_internal_strconv_uint64pow10)), .own (Rp.int .u8) v17 5 x15.out, .blk b1 [v17] 34] := H.back [0, 1] [3] rfl G20
  refine ⟨_, rfl, ?_⟩
  refine (RL_nil (thenQ_n (hK9 _ _ ?_)))
  refine WP_seq_k fun K21 hK21 => ?_
  refine WP_region ?_
  refine RL_do rfl rfl (Do_assign (v := .int .i64 0) rfl) ?_
  refine (RL_nil (thenQ_n (hK21 _ _ ?_)))
  refine WP_block ?_
  unfold F_ref0_Ink_Tracks_L1 at hF
  obtain ⟨B334, n335, eB336, hF⟩ := loopO_some hF
  refine WP_loopS [4, 9, 10, 11, 12, 13, 14, 15, 16, 17, 18, 19, 20, 21, 22, 23, 24, 25, 26, 27, 28, 29, 30, 31, 32, 33, 34, 35] (fun (g : Nat × Int × (List Int) × Value) => [(4, .int .i64 g.2.1)]) (fun g wl => Hd O w wl S [.fz (.sl rTrack v5 p1), .fz (.at 0 0 ((Fl.arr 20 (Fl.int .u64)).f G_internal_strconv_uint64pow10)), .blk b1 [g.2.2.2] 34, .own (Rp.int .u8) g.2.2.2 5 g.2.2.1] ∧ loopN B334 g.1 (g.2.1, g.2.2.1) = some r) (fun g => g.1) (n335, 0, x15.out, v17) (Sl_cons rfl Sl_nil) ⟨H.pick [0, 1, 3, 2] (by decide), hF⟩ ?_
  clear H hF
  rintro ⟨n335, g330, g332, v333⟩ ρ w338 ⟨H, hF⟩
  obtain ⟨n339, rfl, hF⟩ := loopN_pos hF
  have hF := loop_body eB336 hF
  refine WP_seq_k fun K349 hK349 => ?_
  refine WP_seq_k fun K350 hK350 => ?_
  refine WP_region ?_
  refine RL_do rfl rfl (Do_move (v := .int .i64 g330) rfl) ?_
  refine RL_do rfl rfl (Do_move (v := v5) rfl) ?_
  obtain ⟨x351, e352, hF⟩ := letO_some hF
  obtain ⟨a353, c354, q355⟩ := SlF.len ((H.item (i := 0) rfl))
  refine RL_do rfl rfl (Do_as (Do_len u45 q355) (congrArg (Value.int .i64) e352)) ?_
  obtain ⟨x356, e357, hF⟩ := letO_some hF
  refine RL_do rfl rfl (Do_as (Do_lss (a := g330) (b := x351) rfl rfl) (congrArg Value.bool e357)) ?_
  refine (RL_nil (thenQ_n (hK350 _ _ ?_)))
  refine WP_ifb (b := x356) rfl (fun c358 => ?_) (fun c358 => ?_)
  · have hF := iteB_t c358 hF
    refine (WP_skip (thenQ_n (hK349 _ _ ?_)))
    refine WP_seq_k fun K424 hK424 => ?_
    refine WP_block ?_
    refine WP_seq_k fun K425 hK425 => ?_
    refine WP_region ?_
    refine RL_do rfl rfl (Do_move (v := .pointer (some ⟨b1, 0, none⟩)) rfl) ?_
    refine RL_do rfl rfl (Do_move (v := v5) rfl) ?_
    refine RL_do rfl rfl (Do_move (v := .int .i64 g330) rfl) ?_
    obtain ⟨x426, e427, hF⟩ := bindO_some hF
    obtain ⟨b428, o429, c430, cs431, q432, h435, h433, h434, h436⟩ := rd_at (H.item (i := 0) rfl) e427
    obtain ⟨v437, rfl, h438⟩ := rTrack_open h435
    have H := H.fzs [.at b428 (o429 + g330.toNat * 4) _, .sl rSample v437 x426.Series.Samples] ⟨⟨h433, h434, h436⟩, h438, trivial⟩
    refine RL_do rfl rfl (Do_idx u45 sz95 q432 rfl (at_some e427).1 (at_some e427).2.1 rfl rfl) ?_
    refine RL_do rfl rfl (fa95_0 rfl) ?_
    refine RL_do rfl rfl (Do_load one9 rfl (Cells.get (H.item (i := 4) rfl).2.2 (i := 0) rfl)) ?_
    obtain ⟨x441, e442, hF⟩ := bindO_some hF
    refine RL_call rfl rfl (DoC_func en36 rfl) (F_ref0_Ink_Text_w (Orangeboxref0Ink.mk g332) x426.Name b1 v333 _ e442 _ _ _ (H.enter [3, 2] [1] (by decide) rfl)) ?_
    rintro _ w445 ⟨v443, rfl, G446⟩
    have H : Hd O _ w445 _ [.fz (.sl rTrack v5 p1), .fz (.at 0 0 ((Fl.arr 20 (Fl.int .u64)).f G_internal_strconv_uint64pow10)), .fz (.at b428 (o429 + g330.toNat * 4) [.string (bs x426.Name), .int .i64 x426.Series.Den, v437, .int .i64 x426.Long]), .fz (.sl rSample v437 x426.Series.Samples), .own (Rp.int .u8) v443 5 x441.out, .blk b1 [v443] 34] := H.back [3, 2] [1] rfl G446
    refine ⟨_, rfl, ?_⟩
    refine (RL_nil (thenQ_n (hK425 _ _ ?_)))
    refine WP_seq_k fun K447 hK447 => ?_
    refine WP_region ?_
    refine RL_do rfl rfl (Do_move (v := .pointer (some ⟨b1, 0, none⟩)) rfl) ?_
    refine RL_do rfl rfl (Do_move (v := v5) rfl) ?_
    refine RL_do rfl rfl (Do_move (v := .int .i64 g330) rfl) ?_
    obtain ⟨x448, e449, hF⟩ := bindO_some hF
    obtain ⟨b450, o451, c452, cs453, q454, h457, h455, h456, h458⟩ := rd_at (H.item (i := 0) rfl) e449
    obtain ⟨v459, rfl, h460⟩ := rTrack_open h457
    have H := H.fzs [.at b450 (o451 + g330.toNat * 4) _, .sl rSample v459 x448.Series.Samples] ⟨⟨h455, h456, h458⟩, h460, trivial⟩
    refine RL_do rfl rfl (Do_idx u45 sz95 q454 rfl (at_some e449).1 (at_some e449).2.1 rfl rfl) ?_
    refine RL_do rfl rfl (fa95_1 rfl) ?_
    refine RL_do rfl rfl (Do_as (Do_loads (cs := [.int .i64 x448.Series.Den, v459]) agg93 rfl sz93 rfl (Cells.drop (H.item (i := 6) rfl).2.2 1 2)) rfl) ?_
    obtain ⟨x463, e464, hF⟩ := bindO_some hF
    refine RL_call rfl rfl (DoC_func en87 rfl) (F_ref0_Ink_Series_w x441 x448.Series b1 v443 v459 _ e464 _ _ _ (H.enter [4, 5] [7, 1] (by decide) rfl)) ?_
    rintro _ w467 ⟨v465, rfl, G468⟩
    have H : Hd O _ w467 _ [.fz (.sl rTrack v5 p1), .fz (.at 0 0 ((Fl.arr 20 (Fl.int .u64)).f G_internal_strconv_uint64pow10)), .fz (.at b428 (o429 + g330.toNat * 4) [.string (bs x426.Name), .int .i64 x426.Series.Den, v437, .int .i64 x426.Long]), .fz (.sl rSample v437 x426.Series.Samples), .fz (.at b450 (o451 + g330.toNat * 4) [.string (bs x448.Name), .int .i64 x448.Series.Den, v459, .int .i64 x448.Long]), .fz (.sl rSample v459 x448.Series.Samples), .own (Rp.int .u8) v465 5 x463.out, .blk b1 [v465] 34] := H.back [4, 5] [7, 1] rfl G468
    refine ⟨_, rfl, ?_⟩
    refine (RL_nil (thenQ_n (hK447 _ _ ?_)))
    refine WP_region ?_
    refine RL_do rfl rfl (Do_move (v := .pointer (some ⟨b1, 0, none⟩)) rfl) ?_
    refine RL_do rfl rfl (Do_move (v := v5) rfl) ?_
    refine RL_do rfl rfl (Do_move (v := .int .i64 g330) rfl) ?_
    obtain ⟨x469, e470, hF⟩ := bindO_some hF
    obtain ⟨b471, o472, c473, cs474, q475, h478, h476, h477, h479⟩ := rd_at (H.item (i := 0) rfl) e470
    obtain ⟨v480, rfl, h481⟩ := rTrack_open h478
    have H := H.fzs [.at b471 (o472 + g330.toNat * 4) _, .sl rSample v480 x469.Series.Samples] ⟨⟨h476, h477, h479⟩, h481, trivial⟩
    refine RL_do rfl rfl (Do_idx u45 sz95 q475 rfl (at_some e470).1 (at_some e470).2.1 rfl rfl) ?_
    refine RL_do rfl rfl (fa95_2 rfl) ?_
    refine RL_do rfl rfl (Do_load one3 rfl (Cells.get (H.item (i := 8) rfl).2.2 (i := 3) rfl)) ?_
    obtain ⟨x484, e485, hF⟩ := bindO_some hF
    refine RL_call rfl rfl (DoC_func en35 rfl) (F_ref0_Ink_Int_w x463 x469.Long b1 v465 _ e485 _ _ _ (H.enter [6, 7] [1] (by decide) rfl)) ?_
    rintro _ w488 ⟨v486, rfl, G489⟩
    have H : Hd O _ w488 _ [.fz (.sl rTrack v5 p1), .fz (.at 0 0 ((Fl.arr 20 (Fl.int .u64)).f G_internal_strconv_uint64pow10)), .fz (.at b428 (o429 + g330.toNat * 4) [.string (bs x426.Name), .int .i64 x426.Series.Den, v437, .int .i64 x426.Long]), .fz (.sl rSample v437 x426.Series.Samples), .fz (.at b450 (o451 + g330.toNat * 4) [.string (bs x448.Name), .int .i64 x448.Series.Den, v459, .int .i64 x448.Long]), .fz (.sl rSample v459 x448.Series.Samples), .fz (.at b471 (o472 + g330.toNat * 4) [.string (bs x469.Name), .int .i64 x469.Series.Den, v480, .int .i64 x469.Long]), .fz (.sl rSample v480 x469.Series.Samples), .own (Rp.int .u8) v486 5 x484.out, .blk b1 [v486] 34] := H.back [6, 7] [1] rfl G489
    refine ⟨_, rfl, ?_⟩
    refine (RL_nil (blockQ_n (thenQ_n (hK424 _ _ ?_))))
    refine WP_region ?_
    refine RL_do rfl rfl (Do_move (v := .int .i64 g330) rfl) ?_
    obtain ⟨x490, e491, hF⟩ := letO_some hF
    refine RL_do rfl rfl (Do_add (a := g330) (b := 1) rfl rfl e491) ?_
    refine RL_do rfl rfl (Do_assign (v := .int .i64 x490) rfl) ?_
    refine (RL_nil (thenQ_n (And.intro ?_ ?_)))
    · repeat' (first | with_reducible exact Fr_refl | refine Fr_upd rfl ?_ | refine Fr_over rfl rfl ?_)
    · exact ⟨(n339, x490, x484.out, v486), (Sl_cons rfl Sl_nil), ⟨H.pick [0, 1, 9, 8] (by decide), hF⟩, Nat.lt_succ_self _⟩
  · have hF := iteB_f c358 hF
    have hR := Option.some.inj hF
    subst hR
    refine (WP_exit (thenQ_x (thenQ_x (blockQ_eq (post0n rfl ?_)))))
    exact ⟨v333, rfl, H.pick [3, 2] (by decide)⟩
end Go.Proofs.YtbjhondbheijiaaDoor.L
namespace Go.Proofs.YtbjhondbheijiaaDoor.L
open Go.RowKit Go.OB Go.Lf
/- (*orangebox/orangeboxref0.Ink).Flight -/
set_option maxHeartbeats 4000000 in
theorem F_ref0_Ink_Flight_w (p0 : Orangeboxref0Ink) (p1 : Flight) (b1 : Nat) (v2 : Value) (v5 : Value) (r : Orangeboxref0Ink) (hF : F_ref0_Ink_Flight p0 p1 = some r) (O S : List Nat) (w : World) (H : Hd O w w S [.own (Rp.int .u8) v2 5 p0.out, .blk b1 [v2] 34, .fz (.sl rTrack v5 p1.Tracks), .fz (.at 0 0 ((Fl.arr 20 (Fl.int .u64)).f G_internal_strconv_uint64pow10))]) :
    Calls Tryd.prog 52 ([.pointer (some ⟨b1, 0, none⟩), .agg [.string (bs p1.Tail), .string (bs p1.Route), .int .i64 p1.Day, .int .i64 p1.From, .int .i64 p1.To, v5].toArray] : List Value).toArray w fun e w' => ∃ u8, e = .returned (.tuple #[]) ∧ Hd O w w' S [.own (Rp.int .u8) u8 5 r.out, .blk b1 [u8] 34] := by
  unfold F_ref0_Ink_Flight at hF
  refine calls_of_WP 24 Tryd.func52 rfl rfl rfl ?_
  refine WP_seq_k fun K9 hK9 => ?_
  refine WP_region ?_
  refine RL_ex rfl rfl (Lx_box (cs := [.string (bs p1.Tail), .string (bs p1.Route), .int .i64 p1.Day, .int .i64 p1.From, .int .i64 p1.To, v5]) rfl H) ?_
  rintro _ w12 ⟨b10, rfl, H⟩
  refine (RL_nil (thenQ_n (hK9 _ _ ?_)))
  refine WP_seq_k fun K13 hK13 => ?_
  refine WP_region ?_
  refine RL_do rfl rfl (Do_move (v := .pointer (some ⟨b1, 0, none⟩)) rfl) ?_
  refine RL_do rfl rfl (fa47_0 rfl) ?_
  refine RL_do rfl rfl (Do_load one9 rfl (Cells.get (Blk.cells (H.item (i := 4) rfl)) (i := 0) rfl)) ?_
  refine RL_do rfl rfl (fa47_1 rfl) ?_
  refine RL_do rfl rfl (Do_load one9 rfl (Cells.get (Blk.cells (H.item (i := 4) rfl)) (i := 1) rfl)) ?_
  obtain ⟨x14, e15, hF⟩ := letO_some hF
  subst e15
  refine RL_ex rfl rfl (Lx_bs (r := Rp.str) (xl := [p1.Tail, p1.Route]) (cs := [.string (bs p1.Tail), .string (bs p1.Route)]) u35 el9 (by decide) (by decide) rfl (fillB_parts (vs := [.string (bs p1.Tail), .string (bs p1.Route)]) (by decide) rfl rfl ⟨rfl, rfl, trivial⟩ rfl) H ⟨[.string (bs p1.Tail)], [.string (bs p1.Route)], rfl, rfl, ⟨[.string (bs p1.Route)], [], rfl, rfl, rfl⟩⟩) ?_
  rintro v17 w18 H
  have H := H.freeze (i := 5) rfl
  obtain ⟨x19, e20, hF⟩ := bindO_some hF
  refine RL_call rfl rfl (DoC_func en12 rfl) (F_ref0_Ink_Texts_w p0 ([p1.Tail, p1.Route] : List Str) b1 v2 v17 _ e20 _ _ _ (H.enter [0, 1] [5, 3] (by decide) rfl)) ?_
  rintro _ w23 ⟨v21, rfl, G24⟩
  have H : Hd O _ w23 _ [.fz (.sl rTrack v5 p1.Tracks), .fz (.at 0 0 ((Fl.arr 20 (Fl.int .u64)).f G_internal_strconv_uint64pow10)), .blk b10 [.string (bs p1.Tail), .string (bs p1.Route), .int .i64 p1.Day, .int .i64 p1.From, .int .i64 p1.To, v5] 47, .fz (.sl Rp.str v17 ([p1.Tail, p1.Route] : List Str)), .own (Rp.int .u8) v21 5 x19.out, .blk b1 [v21] 34] := H.back [0, 1] [5, 3] rfl G24
  refine ⟨_, rfl, ?_⟩
  refine (RL_nil (thenQ_n (hK13 _ _ ?_)))
  refine WP_seq_k fun K25 hK25 => ?_
  refine WP_region ?_
  refine RL_do rfl rfl (Do_move (v := .pointer (some ⟨b1, 0, none⟩)) rfl) ?_
  refine RL_do rfl rfl (fa47_2 rfl) ?_
  refine RL_do rfl rfl (Do_load one3 rfl (Cells.get (Blk.cells (H.item (i := 2) rfl)) (i := 2) rfl)) ?_
  refine RL_do rfl rfl (fa47_3 rfl) ?_
  refine RL_do rfl rfl (Do_load one3 rfl (Cells.get (Blk.cells (H.item (i := 2) rfl)) (i := 3) rfl)) ?_
  refine RL_do rfl rfl (fa47_4 rfl) ?_
  refine RL_do rfl rfl (Do_load one3 rfl (Cells.get (Blk.cells (H.item (i := 2) rfl)) (i := 4) rfl)) ?_
  obtain ⟨x26, e27, hF⟩ := letO_some hF
  subst e27
  refine RL_ex rfl rfl (Lx_bs (r := (Rp.int .i64)) (xl := [p1.Day, p1.From, p1.To]) (cs := [.int .i64 p1.Day, .int .i64 p1.From, .int .i64 p1.To]) u23 el3 (by decide) (by decide) rfl (fillB_parts (vs := [.int .i64 p1.Day, .int .i64 p1.From, .int .i64 p1.To]) (by decide) rfl rfl ⟨rfl, rfl, rfl, trivial⟩ rfl) H ⟨[.int .i64 p1.Day], [.int .i64 p1.From, .int .i64 p1.To], rfl, rfl, ⟨[.int .i64 p1.From], [.int .i64 p1.To], rfl, rfl, ⟨[.int .i64 p1.To], [], rfl, rfl, rfl⟩⟩⟩) ?_
  rintro v29 w30 H
  have H := H.freeze (i := 6) rfl
  obtain ⟨x31, e32, hF⟩ := bindO_some hF
  refine RL_call rfl rfl (DoC_func en72 rfl) (F_ref0_Ink_Ints_w x19 ([p1.Day, p1.From, p1.To] : List Int) b1 v21 v29 _ e32 _ _ _ (H.enter [4, 5] [6, 1] (by decide) rfl)) ?_
  rintro _ w35 ⟨v33, rfl, G36⟩
  have H : Hd O _ w35 _ [.fz (.sl rTrack v5 p1.Tracks), .fz (.at 0 0 ((Fl.arr 20 (Fl.int .u64)).f G_internal_strconv_uint64pow10)), .blk b10 [.string (bs p1.Tail), .string (bs p1.Route), .int .i64 p1.Day, .int .i64 p1.From, .int .i64 p1.To, v5] 47, .fz (.sl Rp.str v17 ([p1.Tail, p1.Route] : List Str)), .fz (.sl (Rp.int .i64) v29 ([p1.Day, p1.From, p1.To] : List Int)), .own (Rp.int .u8) v33 5 x31.out, .blk b1 [v33] 34] := H.back [4, 5] [6, 1] rfl G36
  refine ⟨_, rfl, ?_⟩
  refine (RL_nil (thenQ_n (hK25 _ _ ?_)))
  refine WP_region ?_
  refine RL_do rfl rfl (Do_move (v := .pointer (some ⟨b1, 0, none⟩)) rfl) ?_
  refine RL_do rfl rfl (fa47_5 rfl) ?_
  refine RL_do rfl rfl (Do_load one45 rfl (Cells.get (Blk.cells (H.item (i := 2) rfl)) (i := 5) rfl)) ?_
  obtain ⟨x37, e38, hF⟩ := bindO_some hF
  refine RL_call rfl rfl (DoC_func en73 rfl) (F_ref0_Ink_Tracks_w x31 p1.Tracks b1 v33 v5 _ e38 _ _ _ (H.enter [5, 6] [0, 1] (by decide) rfl)) ?_
  rintro _ w41 ⟨v39, rfl, G42⟩
  have H : Hd O _ w41 _ [.fz (.sl rTrack v5 p1.Tracks), .fz (.at 0 0 ((Fl.arr 20 (Fl.int .u64)).f G_internal_strconv_uint64pow10)), .blk b10 [.string (bs p1.Tail), .string (bs p1.Route), .int .i64 p1.Day, .int .i64 p1.From, .int .i64 p1.To, v5] 47, .fz (.sl Rp.str v17 ([p1.Tail, p1.Route] : List Str)), .fz (.sl (Rp.int .i64) v29 ([p1.Day, p1.From, p1.To] : List Int)), .own (Rp.int .u8) v39 5 x37.out, .blk b1 [v39] 34] := H.back [5, 6] [0, 1] rfl G42
  refine ⟨_, rfl, ?_⟩
  have hR := Option.some.inj hF
  subst hR
  refine (RL_nil (post0n rfl ?_))
  exact ⟨v39, rfl, H.pick [5, 6] (by decide)⟩
end Go.Proofs.YtbjhondbheijiaaDoor.L
namespace Go.Proofs.YtbjhondbheijiaaDoor.L
open Go.RowKit Go.OB Go.Lf
/- orangebox/orangeboxlaw9.flight -/
set_option maxHeartbeats 4000000 in
theorem F_law9_flight_w (p0 : Flight) (p1 : Int) (v1 : Value) (r : Str) (hF : F_law9_flight p0 p1 = some r) (O S : List Nat) (w : World) (H : Hd O w w S [.fz (.sl rTrack v1 p0.Tracks), .fz (.at 0 0 ((Fl.arr 20 (Fl.int .u64)).f G_internal_strconv_uint64pow10))]) :
    Calls Tryd.prog 23 ([.agg [.string (bs p0.Tail), .string (bs p0.Route), .int .i64 p0.Day, .int .i64 p0.From, .int .i64 p0.To, v1].toArray, .int .i64 p1] : List Value).toArray w fun e w' => e = .returned (.string (bs r)) ∧ Hd O w w' S [] := by
  unfold F_law9_flight at hF
  refine calls_of_WP 16 Tryd.func23 rfl rfl rfl ?_
  refine WP_seq_k fun K4 hK4 => ?_
  refine WP_region ?_
  refine RL_ex rfl rfl (Lx_box (cs := [.string (bs p0.Tail), .string (bs p0.Route), .int .i64 p0.Day, .int .i64 p0.From, .int .i64 p0.To, v1]) rfl H) ?_
  rintro _ w7 ⟨b5, rfl, H⟩
  refine RL_do rfl rfl (Do_assign (v := .string (bs [])) rfl) ?_
  refine (RL_nil (thenQ_n (hK4 _ _ ?_)))
  refine WP_seq_k fun K8 hK8 => ?_
  refine WP_region ?_
  refine RL_do rfl rfl (Do_build (cs := [.slice none 0 0]) bz34) ?_
  refine RL_ex rfl rfl (Lx_box (cs := [.slice none 0 0]) rfl H) ?_
  rintro _ w11 ⟨b9, rfl, H⟩
  refine RL_do rfl rfl (Do_assign (v := .pointer (some ⟨b9, 0, none⟩)) rfl) ?_
  refine (RL_nil (thenQ_n (hK8 _ _ ?_)))
  refine WP_seq_k fun K12 hK12 => ?_
  refine WP_region ?_
  refine RL_do rfl rfl (Do_move (v := .pointer (some ⟨b9, 0, none⟩)) rfl) ?_
  refine RL_do rfl rfl (Do_as (Do_loads (cs := [.string (bs p0.Tail), .string (bs p0.Route), .int .i64 p0.Day, .int .i64 p0.From, .int .i64 p0.To, v1]) agg47 rfl sz47 rfl (Blk.cells (H.item (i := 2) rfl))) rfl) ?_
  have H := own_nil H (Rp.int .u8) 5
  obtain ⟨x14, e15, hF⟩ := bindO_some hF
  refine RL_call rfl rfl (DoC_func en52 rfl) (F_ref0_Ink_Flight_w (Orangeboxref0Ink.mk []) p0 b9 (.slice none 0 0) v1 _ e15 _ _ _ (H.enter [4, 3] [0, 1] (by decide) rfl)) ?_
  rintro _ w18 ⟨v16, rfl, G19⟩
  have H : Hd O _ w18 _ [.fz (.sl rTrack v1 p0.Tracks), .fz (.at 0 0 ((Fl.arr 20 (Fl.int .u64)).f G_internal_strconv_uint64pow10)), .blk b5 [.string (bs p0.Tail), .string (bs p0.Route), .int .i64 p0.Day, .int .i64 p0.From, .int .i64 p0.To, v1] 47, .own (Rp.int .u8) v16 5 x14.out, .blk b9 [v16] 34] := H.back [4, 3] [0, 1] rfl G19
  refine ⟨_, rfl, ?_⟩
  refine (RL_nil (thenQ_n (hK12 _ _ ?_)))
  refine WP_seq_k fun K20 hK20 => ?_
  refine WP_region ?_
  refine RL_do rfl rfl (Do_move (v := .pointer (some ⟨b9, 0, none⟩)) rfl) ?_
  refine RL_do rfl rfl (Do_move (v := .int .i64 p1) rfl) ?_
  obtain ⟨x21, e22, hF⟩ := bindO_some hF
  refine RL_call rfl rfl (DoC_func en13 rfl) (F_ref0_Ink_Errno_w x14 p1 b9 v16 _ e22 _ _ _ (H.enter [3, 4] [1] (by decide) rfl)) ?_
  rintro _ w25 ⟨v23, rfl, G26⟩
  have H : Hd O _ w25 _ [.fz (.sl rTrack v1 p0.Tracks), .fz (.at 0 0 ((Fl.arr 20 (Fl.int .u64)).f G_internal_strconv_uint64pow10)), .blk b5 [.string (bs p0.Tail), .string (bs p0.Route), .int .i64 p0.Day, .int .i64 p0.From, .int .i64 p0.To, v1] 47, .own (Rp.int .u8) v23 5 x21.out, .blk b9 [v23] 34] := H.back [3, 4] [1] rfl G26
  refine ⟨_, rfl, ?_⟩
  refine (RL_nil (thenQ_n (hK20 _ _ ?_)))
  refine WP_seq_k fun K27 hK27 => ?_
  refine WP_region ?_
  refine RL_do rfl rfl (Do_move (v := .pointer (some ⟨b9, 0, none⟩)) rfl) ?_
  have H28 := H
  have H := H.freezeB (i := 4) rfl
  have H := H.freeze (i := 3) rfl
  have H := H.fz (.pt rOrangeboxref0Ink (some ⟨b9, 0, none⟩) (some x21)) ⟨_, _, _, rfl, (H.item (i := 4) rfl).1, (H.item (i := 4) rfl).2.1, (rOrangeboxref0Ink_mk (x := x21) (H.item (i := 3) rfl)), (H.item (i := 4) rfl).2.2⟩
  obtain ⟨x30, e31, hF⟩ := bindO_some hF
  refine RL_call rfl rfl (DoC_func en16 rfl) (F_ref0_Ink_Told_w (some x21) (some ⟨b9, 0, none⟩) _ e31 _ _ _ (H.enter [] [5] (by decide) rfl)) ?_
  rintro _ w32 ⟨rfl, G33⟩
  have H := H28.step (G33.only : Only [] _ _)
  refine ⟨_, rfl, ?_⟩
  refine RL_do rfl rfl (Do_assign (v := .string (bs x30)) rfl) ?_
  refine (RL_nil (thenQ_n (hK27 _ _ ?_)))
  have hR := Option.some.inj hF
  subst hR
  refine (WP_ret (post1 (v1 := .string (bs x30)) rfl rfl ?_))
  exact ⟨rfl, H.pick [] (by decide)⟩
end Go.Proofs.YtbjhondbheijiaaDoor.L
namespace Go.Proofs.YtbjhondbheijiaaDoor.L
open Go.RowKit Go.OB Go.Lf
/- orangebox/event.within -/
set_option maxHeartbeats 4000000 in
theorem F_event_within_w (p0 : Int) (p1 : Int) (p2 : Int) (r : Bool) (hF : F_event_within p0 p1 p2 = some r) (O S : List Nat) (w : World) (H : Hd O w w S []) :
    Calls Tryd.prog 67 ([.int .i64 p0, .int .i64 p1, .int .i64 p2] : List Value).toArray w fun e w' => e = .returned (.bool r) ∧ Hd O w w' S [] := by
  unfold F_event_within at hF
  refine calls_of_WP 15 Tryd.func67 rfl rfl rfl ?_
  refine WP_seq_k fun K1 hK1 => ?_
  refine WP_region ?_
  refine RL_do rfl rfl (Do_assign (v := .bool false) rfl) ?_
  refine (RL_nil (thenQ_n (hK1 _ _ ?_)))
  obtain ⟨g7, hF, hK9⟩ := bindO_some hF
  refine WP_seqS [6, 7, 8, 9, 10, 11, 12, 13, 14] (fun (g : Unit) => [(6, .bool g7)]) (fun g wl => Hd O w wl S []) ?_ ?_
  · skip
    refine WP_region ?_
    refine RL_do rfl rfl (Do_move (v := .int .i64 p0) rfl) ?_
    refine RL_do rfl rfl (Do_move (v := .int .i64 p1) rfl) ?_
    obtain ⟨x10, e11, hF⟩ := letO_some hF
    refine RL_do rfl rfl (Do_as (Do_geq (a := p0) (b := p1) rfl rfl) (congrArg Value.bool e11)) ?_
    refine RL_splitb (b := x10) rfl rfl rfl (fun c12 => ?_) (fun c12 => ?_)
    · have hF := iteB_t c12 hF
      refine RL_do rfl rfl (Do_move (v := .int .i64 p0) rfl) ?_
      refine RL_do rfl rfl (Do_move (v := .int .i64 p2) rfl) ?_
      obtain ⟨x13, e14, hF⟩ := letO_some hF
      refine RL_do rfl rfl (Do_as (Do_leq (a := p0) (b := p2) rfl rfl) (congrArg Value.bool e14)) ?_
      refine RL_do rfl rfl (Do_pick_t (v := .bool x13) rfl rfl) ?_
      refine RL_do rfl rfl (Do_assign (v := .bool x13) rfl) ?_
      have hR := Option.some.inj hF
      subst hR
      refine (RL_nil (thenQ_n (And.intro ?_ ?_)))
      · repeat' (first | with_reducible exact Fr_refl | refine Fr_upd rfl ?_ | refine Fr_over rfl rfl ?_)
      · exact ⟨(), (Sl_cons rfl Sl_nil), H.pick [] (by decide)⟩
    · have hF := iteB_f c12 hF
      refine RL_off rfl rfl ?_
      refine RL_off rfl rfl ?_
      refine RL_off rfl rfl ?_
      refine RL_do rfl rfl (Do_pick_f (v := .bool false) rfl rfl) ?_
      refine RL_do rfl rfl (Do_assign (v := .bool false) rfl) ?_
      have hR := Option.some.inj hF
      subst hR
      refine (RL_nil (thenQ_n (And.intro ?_ ?_)))
      · repeat' (first | with_reducible exact Fr_refl | refine Fr_upd rfl ?_ | refine Fr_over rfl rfl ?_)
      · exact ⟨(), (Sl_cons rfl Sl_nil), H.pick [] (by decide)⟩
  · rintro _ ρ w8 H
    have hF := hK9
    have hR := Option.some.inj hF
    subst hR
    refine (WP_ret (post1 (v1 := .bool g7) rfl rfl ?_))
    exact ⟨rfl, H.pick [] (by decide)⟩
end Go.Proofs.YtbjhondbheijiaaDoor.L
