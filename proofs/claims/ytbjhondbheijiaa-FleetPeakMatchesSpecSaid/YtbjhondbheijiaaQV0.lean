/- Walks: what each function computes, for every argument; no condition but those that stand in the statements. -/
import Derived.Test.YtbjhondbheijiaaRows
import Derived.Test.YtbjhondbheijiaaQP
namespace Go.Proofs.Ytbjhondbheijiaa
open Go.RowKit Go.OB Go.Lf
theorem u4 : Try.prog.underlying 4 = some .bool := Try.underlying4
theorem u9 : Try.prog.underlying 9 = some .string := Try.underlying9
theorem u22 : Try.prog.underlying 22 = some (.slice 60) := Try.underlying22
theorem u31 : Try.prog.underlying 31 = some (.slice 30) := Try.underlying31
theorem u32 : Try.prog.underlying 32 = some (.slice 9) := Try.underlying32
theorem u44 : Try.prog.underlying 44 = some (.slice 3) := Try.underlying44
theorem u49 : Try.prog.underlying 49 = some (.slice 46) := Try.underlying49
theorem u54 : Try.prog.underlying 54 = some (.pointer 60) := Try.underlying54
theorem u56 : Try.prog.underlying 56 = some (.slice 62) := Try.underlying56
theorem sz3 : Sz Try.prog 3 1 := by unfold Sz; kernel_rfl
theorem sz9 : Sz Try.prog 9 1 := by unfold Sz; kernel_rfl
theorem sz22 : Sz Try.prog 22 1 := by unfold Sz; kernel_rfl
theorem sz24 : Sz Try.prog 24 6 := by unfold Sz; kernel_rfl
theorem sz30 : Sz Try.prog 30 2 := by unfold Sz; kernel_rfl
theorem sz34 : Sz Try.prog 34 5 := by unfold Sz; kernel_rfl
theorem sz44 : Sz Try.prog 44 1 := by unfold Sz; kernel_rfl
theorem sz46 : Sz Try.prog 46 4 := by unfold Sz; kernel_rfl
theorem sz56 : Sz Try.prog 56 1 := by unfold Sz; kernel_rfl
theorem sz58 : Sz Try.prog 58 2 := by unfold Sz; kernel_rfl
theorem sz60 : Sz Try.prog 60 4 := by unfold Sz; kernel_rfl
theorem sz62 : Sz Try.prog 62 3 := by unfold Sz; kernel_rfl
theorem one3 : OneC Try.prog 3 := by unfold OneC; kernel_rfl
theorem one4 : OneC Try.prog 4 := by unfold OneC; kernel_rfl
theorem one9 : OneC Try.prog 9 := by unfold OneC; kernel_rfl
theorem one22 : OneC Try.prog 22 := by unfold OneC; kernel_rfl
theorem one31 : OneC Try.prog 31 := by unfold OneC; kernel_rfl
theorem one32 : OneC Try.prog 32 := by unfold OneC; kernel_rfl
theorem one44 : OneC Try.prog 44 := by unfold OneC; kernel_rfl
theorem one56 : OneC Try.prog 56 := by unfold OneC; kernel_rfl
theorem agg24 : Agg Try.prog 24 := by unfold Agg; kernel_rfl
theorem agg30 : Agg Try.prog 30 := by unfold Agg; kernel_rfl
theorem agg34 : Agg Try.prog 34 := by unfold Agg; kernel_rfl
theorem agg46 : Agg Try.prog 46 := by unfold Agg; kernel_rfl
theorem agg58 : Agg Try.prog 58 := by unfold Agg; kernel_rfl
theorem agg60 : Agg Try.prog 60 := by unfold Agg; kernel_rfl
theorem agg62 : Agg Try.prog 62 := by unfold Agg; kernel_rfl
theorem zero24 : Go.OB.Zero Try.prog 24 [.string (bs []), .string (bs []), .int .i64 0, .int .i64 0, .int .i64 0, .slice none 0 0] := by unfold Go.OB.Zero; kernel_rfl
theorem zero30 : Go.OB.Zero Try.prog 30 [.string (bs []), .int .i64 0] := by unfold Go.OB.Zero; kernel_rfl
theorem zero34 : Go.OB.Zero Try.prog 34 [.bool false, .int .i64 0, .slice none 0 0, .slice none 0 0, .int .i64 0] := by unfold Go.OB.Zero; kernel_rfl
theorem zero46 : Go.OB.Zero Try.prog 46 [.string (bs []), .bool false, .int .i64 0, .slice none 0 0] := by unfold Go.OB.Zero; kernel_rfl
theorem zero58 : Go.OB.Zero Try.prog 58 [.int .i64 0, .slice none 0 0] := by unfold Go.OB.Zero; kernel_rfl
theorem zero60 : Go.OB.Zero Try.prog 60 [.string (bs []), .int .i64 0, .slice none 0 0, .int .i64 0] := by unfold Go.OB.Zero; kernel_rfl
theorem zero62 : Go.OB.Zero Try.prog 62 [.int .i64 0, .int .i64 0, .int .i64 0] := by unfold Go.OB.Zero; kernel_rfl
theorem el3 : El Try.prog 3 1 8 [.int .i64 0] := ⟨by kernel_rfl, by kernel_rfl, by kernel_rfl, by decide, by decide⟩
theorem el9 : El Try.prog 9 1 16 [.string (bs [])] := ⟨by kernel_rfl, by kernel_rfl, by kernel_rfl, by decide, by decide⟩
theorem el30 : El Try.prog 30 2 24 [.string (bs []), .int .i64 0] := ⟨by kernel_rfl, by kernel_rfl, by kernel_rfl, by decide, by decide⟩
theorem el46 : El Try.prog 46 4 56 [.string (bs []), .bool false, .int .i64 0, .slice none 0 0] := ⟨by kernel_rfl, by kernel_rfl, by kernel_rfl, by decide, by decide⟩
theorem el60 : El Try.prog 60 4 56 [.string (bs []), .int .i64 0, .slice none 0 0, .int .i64 0] := ⟨by kernel_rfl, by kernel_rfl, by kernel_rfl, by decide, by decide⟩
theorem el62 : El Try.prog 62 3 24 [.int .i64 0, .int .i64 0, .int .i64 0] := ⟨by kernel_rfl, by kernel_rfl, by kernel_rfl, by decide, by decide⟩
theorem bz24 : Try.prog.built 24 [] = some [.string (bs []), .string (bs []), .int .i64 0, .int .i64 0, .int .i64 0, .slice none 0 0].toArray := by kernel_rfl
theorem bz46 : Try.prog.built 46 [] = some [.string (bs []), .bool false, .int .i64 0, .slice none 0 0].toArray := by kernel_rfl
theorem bt30_0_1 (a0 : Str) (a1 : Int) : Try.prog.built 30 [(0, .string (bs a0)), (1, .int .i64 a1)] = some [.string (bs a0), .int .i64 a1].toArray := by kernel_rfl
theorem bt34_1_3_4 (a0 : Int) (a1a : Option Addr) (a1n a1c : Nat) (a2 : Int) : Try.prog.built 34 [(1, .int .i64 a0), (3, .slice a1a a1n a1c), (4, .int .i64 a2)] = some [.bool false, .int .i64 a0, .slice none 0 0, .slice a1a a1n a1c, .int .i64 a2].toArray := by kernel_rfl
theorem bt46_0_2_3 (a0 : Str) (a1 : Int) (a2a : Option Addr) (a2n a2c : Nat) : Try.prog.built 46 [(0, .string (bs a0)), (2, .int .i64 a1), (3, .slice a2a a2n a2c)] = some [.string (bs a0), .bool false, .int .i64 a1, .slice a2a a2n a2c].toArray := by kernel_rfl
theorem fa24_0 {ρ : Env} {w : World} {d : Option Tmp} {x : Operand} {ty : TypeId} {pos : String} {af : Array Edge} {g : Option (Nat × Bool)} {b o : Nat} (hx : ev ρ x = .pointer (some ⟨b, o, none⟩)) : Do Try.prog ⟨d, .fieldAddr 24 x 0, ty, pos, af, g⟩ ρ w (.pointer (some ⟨b, o + 0, none⟩)) w := Do_fieldAddrC (n := 1) (m := 0) (by kernel_rfl) (by decide) hx
theorem fa24_1 {ρ : Env} {w : World} {d : Option Tmp} {x : Operand} {ty : TypeId} {pos : String} {af : Array Edge} {g : Option (Nat × Bool)} {b o : Nat} (hx : ev ρ x = .pointer (some ⟨b, o, none⟩)) : Do Try.prog ⟨d, .fieldAddr 24 x 1, ty, pos, af, g⟩ ρ w (.pointer (some ⟨b, o + 1, none⟩)) w := Do_fieldAddrC (n := 1) (m := 1) (by kernel_rfl) (by decide) hx
theorem fa24_2 {ρ : Env} {w : World} {d : Option Tmp} {x : Operand} {ty : TypeId} {pos : String} {af : Array Edge} {g : Option (Nat × Bool)} {b o : Nat} (hx : ev ρ x = .pointer (some ⟨b, o, none⟩)) : Do Try.prog ⟨d, .fieldAddr 24 x 2, ty, pos, af, g⟩ ρ w (.pointer (some ⟨b, o + 2, none⟩)) w := Do_fieldAddrC (n := 1) (m := 2) (by kernel_rfl) (by decide) hx
theorem fa24_3 {ρ : Env} {w : World} {d : Option Tmp} {x : Operand} {ty : TypeId} {pos : String} {af : Array Edge} {g : Option (Nat × Bool)} {b o : Nat} (hx : ev ρ x = .pointer (some ⟨b, o, none⟩)) : Do Try.prog ⟨d, .fieldAddr 24 x 3, ty, pos, af, g⟩ ρ w (.pointer (some ⟨b, o + 3, none⟩)) w := Do_fieldAddrC (n := 1) (m := 3) (by kernel_rfl) (by decide) hx
theorem fa24_4 {ρ : Env} {w : World} {d : Option Tmp} {x : Operand} {ty : TypeId} {pos : String} {af : Array Edge} {g : Option (Nat × Bool)} {b o : Nat} (hx : ev ρ x = .pointer (some ⟨b, o, none⟩)) : Do Try.prog ⟨d, .fieldAddr 24 x 4, ty, pos, af, g⟩ ρ w (.pointer (some ⟨b, o + 4, none⟩)) w := Do_fieldAddrC (n := 1) (m := 4) (by kernel_rfl) (by decide) hx
theorem fa24_5 {ρ : Env} {w : World} {d : Option Tmp} {x : Operand} {ty : TypeId} {pos : String} {af : Array Edge} {g : Option (Nat × Bool)} {b o : Nat} (hx : ev ρ x = .pointer (some ⟨b, o, none⟩)) : Do Try.prog ⟨d, .fieldAddr 24 x 5, ty, pos, af, g⟩ ρ w (.pointer (some ⟨b, o + 5, none⟩)) w := Do_fieldAddrC (n := 1) (m := 5) (by kernel_rfl) (by decide) hx
theorem fa30_0 {ρ : Env} {w : World} {d : Option Tmp} {x : Operand} {ty : TypeId} {pos : String} {af : Array Edge} {g : Option (Nat × Bool)} {b o : Nat} (hx : ev ρ x = .pointer (some ⟨b, o, none⟩)) : Do Try.prog ⟨d, .fieldAddr 30 x 0, ty, pos, af, g⟩ ρ w (.pointer (some ⟨b, o + 0, none⟩)) w := Do_fieldAddrC (n := 1) (m := 0) (by kernel_rfl) (by decide) hx
theorem fa30_1 {ρ : Env} {w : World} {d : Option Tmp} {x : Operand} {ty : TypeId} {pos : String} {af : Array Edge} {g : Option (Nat × Bool)} {b o : Nat} (hx : ev ρ x = .pointer (some ⟨b, o, none⟩)) : Do Try.prog ⟨d, .fieldAddr 30 x 1, ty, pos, af, g⟩ ρ w (.pointer (some ⟨b, o + 1, none⟩)) w := Do_fieldAddrC (n := 1) (m := 1) (by kernel_rfl) (by decide) hx
theorem fa34_0 {ρ : Env} {w : World} {d : Option Tmp} {x : Operand} {ty : TypeId} {pos : String} {af : Array Edge} {g : Option (Nat × Bool)} {b o : Nat} (hx : ev ρ x = .pointer (some ⟨b, o, none⟩)) : Do Try.prog ⟨d, .fieldAddr 34 x 0, ty, pos, af, g⟩ ρ w (.pointer (some ⟨b, o + 0, none⟩)) w := Do_fieldAddrC (n := 1) (m := 0) (by kernel_rfl) (by decide) hx
theorem fa34_1 {ρ : Env} {w : World} {d : Option Tmp} {x : Operand} {ty : TypeId} {pos : String} {af : Array Edge} {g : Option (Nat × Bool)} {b o : Nat} (hx : ev ρ x = .pointer (some ⟨b, o, none⟩)) : Do Try.prog ⟨d, .fieldAddr 34 x 1, ty, pos, af, g⟩ ρ w (.pointer (some ⟨b, o + 1, none⟩)) w := Do_fieldAddrC (n := 1) (m := 1) (by kernel_rfl) (by decide) hx
theorem fa34_2 {ρ : Env} {w : World} {d : Option Tmp} {x : Operand} {ty : TypeId} {pos : String} {af : Array Edge} {g : Option (Nat × Bool)} {b o : Nat} (hx : ev ρ x = .pointer (some ⟨b, o, none⟩)) : Do Try.prog ⟨d, .fieldAddr 34 x 2, ty, pos, af, g⟩ ρ w (.pointer (some ⟨b, o + 2, none⟩)) w := Do_fieldAddrC (n := 1) (m := 2) (by kernel_rfl) (by decide) hx
theorem fa34_3 {ρ : Env} {w : World} {d : Option Tmp} {x : Operand} {ty : TypeId} {pos : String} {af : Array Edge} {g : Option (Nat × Bool)} {b o : Nat} (hx : ev ρ x = .pointer (some ⟨b, o, none⟩)) : Do Try.prog ⟨d, .fieldAddr 34 x 3, ty, pos, af, g⟩ ρ w (.pointer (some ⟨b, o + 3, none⟩)) w := Do_fieldAddrC (n := 1) (m := 3) (by kernel_rfl) (by decide) hx
theorem fa34_4 {ρ : Env} {w : World} {d : Option Tmp} {x : Operand} {ty : TypeId} {pos : String} {af : Array Edge} {g : Option (Nat × Bool)} {b o : Nat} (hx : ev ρ x = .pointer (some ⟨b, o, none⟩)) : Do Try.prog ⟨d, .fieldAddr 34 x 4, ty, pos, af, g⟩ ρ w (.pointer (some ⟨b, o + 4, none⟩)) w := Do_fieldAddrC (n := 1) (m := 4) (by kernel_rfl) (by decide) hx
theorem fa46_0 {ρ : Env} {w : World} {d : Option Tmp} {x : Operand} {ty : TypeId} {pos : String} {af : Array Edge} {g : Option (Nat × Bool)} {b o : Nat} (hx : ev ρ x = .pointer (some ⟨b, o, none⟩)) : Do Try.prog ⟨d, .fieldAddr 46 x 0, ty, pos, af, g⟩ ρ w (.pointer (some ⟨b, o + 0, none⟩)) w := Do_fieldAddrC (n := 1) (m := 0) (by kernel_rfl) (by decide) hx
theorem fa46_1 {ρ : Env} {w : World} {d : Option Tmp} {x : Operand} {ty : TypeId} {pos : String} {af : Array Edge} {g : Option (Nat × Bool)} {b o : Nat} (hx : ev ρ x = .pointer (some ⟨b, o, none⟩)) : Do Try.prog ⟨d, .fieldAddr 46 x 1, ty, pos, af, g⟩ ρ w (.pointer (some ⟨b, o + 1, none⟩)) w := Do_fieldAddrC (n := 1) (m := 1) (by kernel_rfl) (by decide) hx
theorem fa46_2 {ρ : Env} {w : World} {d : Option Tmp} {x : Operand} {ty : TypeId} {pos : String} {af : Array Edge} {g : Option (Nat × Bool)} {b o : Nat} (hx : ev ρ x = .pointer (some ⟨b, o, none⟩)) : Do Try.prog ⟨d, .fieldAddr 46 x 2, ty, pos, af, g⟩ ρ w (.pointer (some ⟨b, o + 2, none⟩)) w := Do_fieldAddrC (n := 1) (m := 2) (by kernel_rfl) (by decide) hx
theorem fa46_3 {ρ : Env} {w : World} {d : Option Tmp} {x : Operand} {ty : TypeId} {pos : String} {af : Array Edge} {g : Option (Nat × Bool)} {b o : Nat} (hx : ev ρ x = .pointer (some ⟨b, o, none⟩)) : Do Try.prog ⟨d, .fieldAddr 46 x 3, ty, pos, af, g⟩ ρ w (.pointer (some ⟨b, o + 3, none⟩)) w := Do_fieldAddrC (n := 1) (m := 3) (by kernel_rfl) (by decide) hx
theorem fa58_0 {ρ : Env} {w : World} {d : Option Tmp} {x : Operand} {ty : TypeId} {pos : String} {af : Array Edge} {g : Option (Nat × Bool)} {b o : Nat} (hx : ev ρ x = .pointer (some ⟨b, o, none⟩)) : Do Try.prog ⟨d, .fieldAddr 58 x 0, ty, pos, af, g⟩ ρ w (.pointer (some ⟨b, o + 0, none⟩)) w := Do_fieldAddrC (n := 1) (m := 0) (by kernel_rfl) (by decide) hx
theorem fa58_1 {ρ : Env} {w : World} {d : Option Tmp} {x : Operand} {ty : TypeId} {pos : String} {af : Array Edge} {g : Option (Nat × Bool)} {b o : Nat} (hx : ev ρ x = .pointer (some ⟨b, o, none⟩)) : Do Try.prog ⟨d, .fieldAddr 58 x 1, ty, pos, af, g⟩ ρ w (.pointer (some ⟨b, o + 1, none⟩)) w := Do_fieldAddrC (n := 1) (m := 1) (by kernel_rfl) (by decide) hx
theorem fa60_0 {ρ : Env} {w : World} {d : Option Tmp} {x : Operand} {ty : TypeId} {pos : String} {af : Array Edge} {g : Option (Nat × Bool)} {b o : Nat} (hx : ev ρ x = .pointer (some ⟨b, o, none⟩)) : Do Try.prog ⟨d, .fieldAddr 60 x 0, ty, pos, af, g⟩ ρ w (.pointer (some ⟨b, o + 0, none⟩)) w := Do_fieldAddrC (n := 1) (m := 0) (by kernel_rfl) (by decide) hx
theorem fa60_1 {ρ : Env} {w : World} {d : Option Tmp} {x : Operand} {ty : TypeId} {pos : String} {af : Array Edge} {g : Option (Nat × Bool)} {b o : Nat} (hx : ev ρ x = .pointer (some ⟨b, o, none⟩)) : Do Try.prog ⟨d, .fieldAddr 60 x 1, ty, pos, af, g⟩ ρ w (.pointer (some ⟨b, o + 1, none⟩)) w := Do_fieldAddrC (n := 2) (m := 1) (by kernel_rfl) (by decide) hx
theorem fa60_2 {ρ : Env} {w : World} {d : Option Tmp} {x : Operand} {ty : TypeId} {pos : String} {af : Array Edge} {g : Option (Nat × Bool)} {b o : Nat} (hx : ev ρ x = .pointer (some ⟨b, o, none⟩)) : Do Try.prog ⟨d, .fieldAddr 60 x 2, ty, pos, af, g⟩ ρ w (.pointer (some ⟨b, o + 3, none⟩)) w := Do_fieldAddrC (n := 1) (m := 3) (by kernel_rfl) (by decide) hx
theorem fa62_0 {ρ : Env} {w : World} {d : Option Tmp} {x : Operand} {ty : TypeId} {pos : String} {af : Array Edge} {g : Option (Nat × Bool)} {b o : Nat} (hx : ev ρ x = .pointer (some ⟨b, o, none⟩)) : Do Try.prog ⟨d, .fieldAddr 62 x 0, ty, pos, af, g⟩ ρ w (.pointer (some ⟨b, o + 0, none⟩)) w := Do_fieldAddrC (n := 1) (m := 0) (by kernel_rfl) (by decide) hx
theorem fa62_1 {ρ : Env} {w : World} {d : Option Tmp} {x : Operand} {ty : TypeId} {pos : String} {af : Array Edge} {g : Option (Nat × Bool)} {b o : Nat} (hx : ev ρ x = .pointer (some ⟨b, o, none⟩)) : Do Try.prog ⟨d, .fieldAddr 62 x 1, ty, pos, af, g⟩ ρ w (.pointer (some ⟨b, o + 1, none⟩)) w := Do_fieldAddrC (n := 1) (m := 1) (by kernel_rfl) (by decide) hx
theorem fa62_2 {ρ : Env} {w : World} {d : Option Tmp} {x : Operand} {ty : TypeId} {pos : String} {af : Array Edge} {g : Option (Nat × Bool)} {b o : Nat} (hx : ev ρ x = .pointer (some ⟨b, o, none⟩)) : Do Try.prog ⟨d, .fieldAddr 62 x 2, ty, pos, af, g⟩ ρ w (.pointer (some ⟨b, o + 2, none⟩)) w := Do_fieldAddrC (n := 1) (m := 2) (by kernel_rfl) (by decide) hx
theorem en4 : Enters Try.prog 4 := ⟨_, Try.func4, rfl, by kernel_rfl⟩
theorem en5 : Enters Try.prog 5 := ⟨_, Try.func5, rfl, by kernel_rfl⟩
theorem en6 : Enters Try.prog 6 := ⟨_, Try.func6, rfl, by kernel_rfl⟩
theorem en7 : Enters Try.prog 7 := ⟨_, Try.func7, rfl, by kernel_rfl⟩
theorem en8 : Enters Try.prog 8 := ⟨_, Try.func8, rfl, by kernel_rfl⟩
theorem en9 : Enters Try.prog 9 := ⟨_, Try.func9, rfl, by kernel_rfl⟩
theorem en10 : Enters Try.prog 10 := ⟨_, Try.func10, rfl, by kernel_rfl⟩
theorem en11 : Enters Try.prog 11 := ⟨_, Try.func11, rfl, by kernel_rfl⟩
theorem en12 : Enters Try.prog 12 := ⟨_, Try.func12, rfl, by kernel_rfl⟩
theorem en13 : Enters Try.prog 13 := ⟨_, Try.func13, rfl, by kernel_rfl⟩
theorem en14 : Enters Try.prog 14 := ⟨_, Try.func14, rfl, by kernel_rfl⟩
theorem en15 : Enters Try.prog 15 := ⟨_, Try.func15, rfl, by kernel_rfl⟩
theorem en16 : Enters Try.prog 16 := ⟨_, Try.func16, rfl, by kernel_rfl⟩
theorem en17 : Enters Try.prog 17 := ⟨_, Try.func17, rfl, by kernel_rfl⟩
theorem en18 : Enters Try.prog 18 := ⟨_, Try.func18, rfl, by kernel_rfl⟩
theorem en19 : Enters Try.prog 19 := ⟨_, Try.func19, rfl, by kernel_rfl⟩
theorem en20 : Enters Try.prog 20 := ⟨_, Try.func20, rfl, by kernel_rfl⟩
theorem en21 : Enters Try.prog 21 := ⟨_, Try.func21, rfl, by kernel_rfl⟩
theorem en22 : Enters Try.prog 22 := ⟨_, Try.func22, rfl, by kernel_rfl⟩
theorem en23 : Enters Try.prog 23 := ⟨_, Try.func23, rfl, by kernel_rfl⟩
theorem en24 : Enters Try.prog 24 := ⟨_, Try.func24, rfl, by kernel_rfl⟩
theorem en25 : Enters Try.prog 25 := ⟨_, Try.func25, rfl, by kernel_rfl⟩
theorem en26 : Enters Try.prog 26 := ⟨_, Try.func26, rfl, by kernel_rfl⟩
theorem en27 : Enters Try.prog 27 := ⟨_, Try.func27, rfl, by kernel_rfl⟩
theorem en28 : Enters Try.prog 28 := ⟨_, Try.func28, rfl, by kernel_rfl⟩
theorem en29 : Enters Try.prog 29 := ⟨_, Try.func29, rfl, by kernel_rfl⟩
theorem en30 : Enters Try.prog 30 := ⟨_, Try.func30, rfl, by kernel_rfl⟩
theorem en31 : Enters Try.prog 31 := ⟨_, Try.func31, rfl, by kernel_rfl⟩
theorem en32 : Enters Try.prog 32 := ⟨_, Try.func32, rfl, by kernel_rfl⟩
theorem en33 : Enters Try.prog 33 := ⟨_, Try.func33, rfl, by kernel_rfl⟩
theorem en34 : Enters Try.prog 34 := ⟨_, Try.func34, rfl, by kernel_rfl⟩
theorem en35 : Enters Try.prog 35 := ⟨_, Try.func35, rfl, by kernel_rfl⟩
theorem en36 : Enters Try.prog 36 := ⟨_, Try.func36, rfl, by kernel_rfl⟩
theorem en37 : Enters Try.prog 37 := ⟨_, Try.func37, rfl, by kernel_rfl⟩
theorem en38 : Enters Try.prog 38 := ⟨_, Try.func38, rfl, by kernel_rfl⟩
theorem en39 : Enters Try.prog 39 := ⟨_, Try.func39, rfl, by kernel_rfl⟩
theorem en40 : Enters Try.prog 40 := ⟨_, Try.func40, rfl, by kernel_rfl⟩
theorem en41 : Enters Try.prog 41 := ⟨_, Try.func41, rfl, by kernel_rfl⟩
theorem en42 : Enters Try.prog 42 := ⟨_, Try.func42, rfl, by kernel_rfl⟩
theorem en43 : Enters Try.prog 43 := ⟨_, Try.func43, rfl, by kernel_rfl⟩
theorem en44 : Enters Try.prog 44 := ⟨_, Try.func44, rfl, by kernel_rfl⟩
theorem en45 : Enters Try.prog 45 := ⟨_, Try.func45, rfl, by kernel_rfl⟩
theorem en46 : Enters Try.prog 46 := ⟨_, Try.func46, rfl, by kernel_rfl⟩
theorem en47 : Enters Try.prog 47 := ⟨_, Try.func47, rfl, by kernel_rfl⟩
theorem en48 : Enters Try.prog 48 := ⟨_, Try.func48, rfl, by kernel_rfl⟩
theorem en49 : Enters Try.prog 49 := ⟨_, Try.func49, rfl, by kernel_rfl⟩
theorem en50 : Enters Try.prog 50 := ⟨_, Try.func50, rfl, by kernel_rfl⟩
theorem en51 : Enters Try.prog 51 := ⟨_, Try.func51, rfl, by kernel_rfl⟩
theorem en52 : Enters Try.prog 52 := ⟨_, Try.func52, rfl, by kernel_rfl⟩
theorem en53 : Enters Try.prog 53 := ⟨_, Try.func53, rfl, by kernel_rfl⟩
theorem en54 : Enters Try.prog 54 := ⟨_, Try.func54, rfl, by kernel_rfl⟩
theorem en55 : Enters Try.prog 55 := ⟨_, Try.func55, rfl, by kernel_rfl⟩
theorem mixed : Try.prog.follows .mixedOrders = true := by kernel_rfl
end Go.Proofs.Ytbjhondbheijiaa
namespace Go.Proofs.Ytbjhondbheijiaa
open Go.RowKit Go.OB Go.Lf
/- orangebox/event.within -/
set_option maxHeartbeats 4000000 in
theorem F_event_within_w (p0 : Int) (p1 : Int) (p2 : Int) (r : Bool) (hF : F_event_within p0 p1 p2 = some r) (O S : List Nat) (w : World) (H : Hd O w w S []) :
    Calls Try.prog 34 ([.int .i64 p0, .int .i64 p1, .int .i64 p2] : List Value).toArray w fun e w' => e = .returned (.bool r) ∧ Hd O w w' S [] := by
  unfold F_event_within at hF
  refine calls_of_WP 15 Try.func34 rfl rfl rfl ?_
  refine WP_seq_k fun K1 hK1 => ?_
  refine WP_region ?_
  refine RL_do rfl rfl (Do_assign (v := .bool false) rfl) ?_
  refine (RL_nil (thenQ_n (hK1 _ _ ?_)))
  obtain ⟨g7, hF, hK9⟩ := bindO_some hF
  refine WP_seqS [6, 7, 8, 9, 10, 11, 12, 13, 14] (fun (g : Unit) => [(6, .bool g7)]) (fun g wl => Hd O w wl S []) ?_ ?_
  · skip
    refine WP_region ?_
    refine RL_do rfl rfl (Do_move (v := .int .i64 p0) rfl) ?_
    refine RL_do rfl rfl (Do_move (v := .int .i64 p1) rfl) ?_
    obtain ⟨x10, e11, hF⟩ := letO_some hF
    refine RL_do rfl rfl (Do_as (Do_geq (a := p0) (b := p1) rfl rfl) (congrArg Value.bool e11)) ?_
    refine RL_splitb (b := x10) rfl rfl rfl (fun c12 => ?_) (fun c12 => ?_)
    · have hF := iteB_t c12 hF
      refine RL_do rfl rfl (Do_move (v := .int .i64 p0) rfl) ?_
      refine RL_do rfl rfl (Do_move (v := .int .i64 p2) rfl) ?_
      obtain ⟨x13, e14, hF⟩ := letO_some hF
      refine RL_do rfl rfl (Do_as (Do_leq (a := p0) (b := p2) rfl rfl) (congrArg Value.bool e14)) ?_
      refine RL_do rfl rfl (Do_pick_t (v := .bool x13) rfl rfl) ?_
      refine RL_do rfl rfl (Do_assign (v := .bool x13) rfl) ?_
      have hR := Option.some.inj hF
      subst hR
      refine (RL_nil (thenQ_n (And.intro ?_ ?_)))
      · repeat' (first | with_reducible exact Fr_refl | refine Fr_upd rfl ?_ | refine Fr_over rfl rfl ?_)
      · exact ⟨(), (Sl_cons rfl Sl_nil), H.pick [] (by decide)⟩
    · have hF := iteB_f c12 hF
      refine RL_off rfl rfl ?_
      refine RL_off rfl rfl ?_
      refine RL_off rfl rfl ?_
      refine RL_do rfl rfl (Do_pick_f (v := .bool false) rfl rfl) ?_
      refine RL_do rfl rfl (Do_assign (v := .bool false) rfl) ?_
      have hR := Option.some.inj hF
      subst hR
      refine (RL_nil (thenQ_n (And.intro ?_ ?_)))
      · repeat' (first | with_reducible exact Fr_refl | refine Fr_upd rfl ?_ | refine Fr_over rfl rfl ?_)
      · exact ⟨(), (Sl_cons rfl Sl_nil), H.pick [] (by decide)⟩
  · rintro _ ρ w8 H
    have hF := hK9
    have hR := Option.some.inj hF
    subst hR
    refine (WP_ret (post1 (v1 := .bool g7) rfl rfl ?_))
    exact ⟨rfl, H.pick [] (by decide)⟩
end Go.Proofs.Ytbjhondbheijiaa
namespace Go.Proofs.Ytbjhondbheijiaa
open Go.RowKit Go.OB Go.Lf
/- orangebox/event.isWord -/
set_option maxHeartbeats 4000000 in
theorem F_event_isWord_w (p0 : Str) (r : Bool) (hF : F_event_isWord p0 = some r) (O S : List Nat) (w : World) (H : Hd O w w S []) :
    Calls Try.prog 35 ([.string (bs p0)] : List Value).toArray w fun e w' => e = .returned (.bool r) ∧ Hd O w w' S [] := by
  unfold F_event_isWord at hF
  refine calls_of_WP 21 Try.func35 rfl rfl rfl ?_
  refine WP_seq_k fun K1 hK1 => ?_
  refine WP_region ?_
  refine RL_do rfl rfl (Do_assign (v := .bool false) rfl) ?_
  refine (RL_nil (thenQ_n (hK1 _ _ ?_)))
  refine WP_seq_k fun K132 hK132 => ?_
  refine WP_seq_k fun K133 hK133 => ?_
  refine WP_region ?_
  refine RL_do rfl rfl (Do_move (v := .string (bs p0)) rfl) ?_
  refine (RL_nil (thenQ_n (hK133 _ _ ?_)))
  refine WP_block ?_
  obtain ⟨g196, hF, hK198⟩ := bindO_some hF
  refine WP_seqS [4, 5, 6, 7, 8, 9, 10, 11, 12, 13, 14, 15, 16, 17, 18, 19, 20] (fun (g : Unit) => [(4, .bool g196)]) (fun g wl => Hd O w wl S []) ?_ ?_
  · skip
    refine WP_seq_k fun K199 hK199 => ?_
    refine WP_region ?_
    obtain ⟨x200, e201, hF⟩ := letO_some hF
    refine RL_do rfl rfl (Do_as (Do_eqls (s1 := p0) (s2 := [112, 104, 97, 115, 101]) rfl rfl) (congrArg Value.bool e201)) ?_
    refine RL_do rfl rfl (Do_assign (v := .bool x200) rfl) ?_
    refine (RL_nil (thenQ_n (hK199 _ _ ?_)))
    refine WP_ifb (b := x200) rfl (fun c202 => ?_) (fun c202 => ?_)
    · have hF := iteB_t c202 hF
      have hR := Option.some.inj hF
      subst hR
      refine (WP_skip (thenQ_n (And.intro ?_ ?_)))
      · repeat' (first | with_reducible exact Fr_refl | refine Fr_upd rfl ?_ | refine Fr_over rfl rfl ?_)
      · exact ⟨(), (Sl_cons rfl Sl_nil), H.pick [] (by decide)⟩
    · have hF := iteB_f c202 hF
      refine WP_seq_k fun K203 hK203 => ?_
      refine WP_region ?_
      obtain ⟨x204, e205, hF⟩ := letO_some hF
      refine RL_do rfl rfl (Do_as (Do_eqls (s1 := p0) (s2 := [109, 111, 118, 101]) rfl rfl) (congrArg Value.bool e205)) ?_
      refine RL_do rfl rfl (Do_assign (v := .bool x204) rfl) ?_
      refine (RL_nil (thenQ_n (hK203 _ _ ?_)))
      refine WP_ifb (b := x204) rfl (fun c206 => ?_) (fun c206 => ?_)
      · have hF := iteB_t c206 hF
        have hR := Option.some.inj hF
        subst hR
        refine (WP_skip (thenQ_n (And.intro ?_ ?_)))
        · repeat' (first | with_reducible exact Fr_refl | refine Fr_upd rfl ?_ | refine Fr_over rfl rfl ?_)
        · exact ⟨(), (Sl_cons rfl Sl_nil), H.pick [] (by decide)⟩
      · have hF := iteB_f c206 hF
        refine WP_seq_k fun K207 hK207 => ?_
        refine WP_region ?_
        obtain ⟨x208, e209, hF⟩ := letO_some hF
        refine RL_do rfl rfl (Do_as (Do_eqls (s1 := p0) (s2 := [114, 117, 108, 101]) rfl rfl) (congrArg Value.bool e209)) ?_
        refine RL_do rfl rfl (Do_assign (v := .bool x208) rfl) ?_
        refine (RL_nil (thenQ_n (hK207 _ _ ?_)))
        refine WP_ifb (b := x208) rfl (fun c210 => ?_) (fun c210 => ?_)
        · have hF := iteB_t c210 hF
          have hR := Option.some.inj hF
          subst hR
          refine (WP_skip (thenQ_n (And.intro ?_ ?_)))
          · repeat' (first | with_reducible exact Fr_refl | refine Fr_upd rfl ?_ | refine Fr_over rfl rfl ?_)
          · exact ⟨(), (Sl_cons rfl Sl_nil), H.pick [] (by decide)⟩
        · have hF := iteB_f c210 hF
          refine WP_seq_k fun K211 hK211 => ?_
          refine WP_region ?_
          obtain ⟨x212, e213, hF⟩ := letO_some hF
          refine RL_do rfl rfl (Do_as (Do_eqls (s1 := p0) (s2 := [105, 102]) rfl rfl) (congrArg Value.bool e213)) ?_
          refine RL_do rfl rfl (Do_assign (v := .bool x212) rfl) ?_
          refine (RL_nil (thenQ_n (hK211 _ _ ?_)))
          refine WP_ifb (b := x212) rfl (fun c214 => ?_) (fun c214 => ?_)
          · have hF := iteB_t c214 hF
            have hR := Option.some.inj hF
            subst hR
            refine (WP_skip (thenQ_n (And.intro ?_ ?_)))
            · repeat' (first | with_reducible exact Fr_refl | refine Fr_upd rfl ?_ | refine Fr_over rfl rfl ?_)
            · exact ⟨(), (Sl_cons rfl Sl_nil), H.pick [] (by decide)⟩
          · have hF := iteB_f c214 hF
            refine WP_seq_k fun K215 hK215 => ?_
            refine WP_region ?_
            obtain ⟨x216, e217, hF⟩ := letO_some hF
            refine RL_do rfl rfl (Do_as (Do_eqls (s1 := p0) (s2 := [111, 114]) rfl rfl) (congrArg Value.bool e217)) ?_
            refine RL_do rfl rfl (Do_assign (v := .bool x216) rfl) ?_
            refine (RL_nil (thenQ_n (hK215 _ _ ?_)))
            refine WP_ifb (b := x216) rfl (fun c218 => ?_) (fun c218 => ?_)
            · have hF := iteB_t c218 hF
              have hR := Option.some.inj hF
              subst hR
              refine (WP_skip (thenQ_n (And.intro ?_ ?_)))
              · repeat' (first | with_reducible exact Fr_refl | refine Fr_upd rfl ?_ | refine Fr_over rfl rfl ?_)
              · exact ⟨(), (Sl_cons rfl Sl_nil), H.pick [] (by decide)⟩
            · have hF := iteB_f c218 hF
              refine WP_seq_k fun K219 hK219 => ?_
              refine WP_region ?_
              obtain ⟨x220, e221, hF⟩ := letO_some hF
              refine RL_do rfl rfl (Do_as (Do_eqls (s1 := p0) (s2 := [97, 110, 100]) rfl rfl) (congrArg Value.bool e221)) ?_
              refine RL_do rfl rfl (Do_assign (v := .bool x220) rfl) ?_
              refine (RL_nil (thenQ_n (hK219 _ _ ?_)))
              refine WP_ifb (b := x220) rfl (fun c222 => ?_) (fun c222 => ?_)
              · have hF := iteB_t c222 hF
                have hR := Option.some.inj hF
                subst hR
                refine (WP_skip (thenQ_n (And.intro ?_ ?_)))
                · repeat' (first | with_reducible exact Fr_refl | refine Fr_upd rfl ?_ | refine Fr_over rfl rfl ?_)
                · exact ⟨(), (Sl_cons rfl Sl_nil), H.pick [] (by decide)⟩
              · have hF := iteB_f c222 hF
                refine WP_seq_k fun K223 hK223 => ?_
                refine WP_region ?_
                obtain ⟨x224, e225, hF⟩ := letO_some hF
                refine RL_do rfl rfl (Do_as (Do_eqls (s1 := p0) (s2 := [116, 114, 117, 101]) rfl rfl) (congrArg Value.bool e225)) ?_
                refine RL_do rfl rfl (Do_assign (v := .bool x224) rfl) ?_
                refine (RL_nil (thenQ_n (hK223 _ _ ?_)))
                refine WP_ifb (b := x224) rfl (fun c226 => ?_) (fun c226 => ?_)
                · have hF := iteB_t c226 hF
                  have hR := Option.some.inj hF
                  subst hR
                  refine (WP_skip (thenQ_n (And.intro ?_ ?_)))
                  · repeat' (first | with_reducible exact Fr_refl | refine Fr_upd rfl ?_ | refine Fr_over rfl rfl ?_)
                  · exact ⟨(), (Sl_cons rfl Sl_nil), H.pick [] (by decide)⟩
                · have hF := iteB_f c226 hF
                  refine WP_seq_k fun K227 hK227 => ?_
                  refine WP_region ?_
                  obtain ⟨x228, e229, hF⟩ := letO_some hF
                  refine RL_do rfl rfl (Do_as (Do_eqls (s1 := p0) (s2 := [102, 97, 108, 115, 101]) rfl rfl) (congrArg Value.bool e229)) ?_
                  refine RL_do rfl rfl (Do_assign (v := .bool x228) rfl) ?_
                  refine (RL_nil (thenQ_n (hK227 _ _ ?_)))
                  refine WP_ifb (b := x228) rfl (fun c230 => ?_) (fun c230 => ?_)
                  · have hF := iteB_t c230 hF
                    have hR := Option.some.inj hF
                    subst hR
                    refine (WP_skip (thenQ_n (And.intro ?_ ?_)))
                    · repeat' (first | with_reducible exact Fr_refl | refine Fr_upd rfl ?_ | refine Fr_over rfl rfl ?_)
                    · exact ⟨(), (Sl_cons rfl Sl_nil), H.pick [] (by decide)⟩
                  · have hF := iteB_f c230 hF
                    refine WP_seq_k fun K231 hK231 => ?_
                    refine WP_region ?_
                    obtain ⟨x232, e233, hF⟩ := letO_some hF
                    refine RL_do rfl rfl (Do_as (Do_eqls (s1 := p0) (s2 := [115, 116, 101, 97, 100, 121]) rfl rfl) (congrArg Value.bool e233)) ?_
                    refine RL_do rfl rfl (Do_assign (v := .bool x232) rfl) ?_
                    refine (RL_nil (thenQ_n (hK231 _ _ ?_)))
                    refine WP_ifb (b := x232) rfl (fun c234 => ?_) (fun c234 => ?_)
                    · have hF := iteB_t c234 hF
                      have hR := Option.some.inj hF
                      subst hR
                      refine (WP_skip (thenQ_n (And.intro ?_ ?_)))
                      · repeat' (first | with_reducible exact Fr_refl | refine Fr_upd rfl ?_ | refine Fr_over rfl rfl ?_)
                      · exact ⟨(), (Sl_cons rfl Sl_nil), H.pick [] (by decide)⟩
                    · have hF := iteB_f c234 hF
                      refine WP_seq_k fun K235 hK235 => ?_
                      refine WP_region ?_
                      obtain ⟨x236, e237, hF⟩ := letO_some hF
                      refine RL_do rfl rfl (Do_as (Do_eqls (s1 := p0) (s2 := [110, 111, 116]) rfl rfl) (congrArg Value.bool e237)) ?_
                      refine RL_do rfl rfl (Do_assign (v := .bool x236) rfl) ?_
                      refine (RL_nil (thenQ_n (hK235 _ _ ?_)))
                      refine WP_ifb (b := x236) rfl (fun c238 => ?_) (fun c238 => ?_)
                      · have hF := iteB_t c238 hF
                        have hR := Option.some.inj hF
                        subst hR
                        refine (WP_skip (thenQ_n (And.intro ?_ ?_)))
                        · repeat' (first | with_reducible exact Fr_refl | refine Fr_upd rfl ?_ | refine Fr_over rfl rfl ?_)
                        · exact ⟨(), (Sl_cons rfl Sl_nil), H.pick [] (by decide)⟩
                      · have hF := iteB_f c238 hF
                        refine WP_seq_k fun K239 hK239 => ?_
                        refine WP_region ?_
                        obtain ⟨x240, e241, hF⟩ := letO_some hF
                        refine RL_do rfl rfl (Do_as (Do_eqls (s1 := p0) (s2 := [102, 111, 114]) rfl rfl) (congrArg Value.bool e241)) ?_
                        refine RL_do rfl rfl (Do_assign (v := .bool x240) rfl) ?_
                        refine (RL_nil (thenQ_n (hK239 _ _ ?_)))
                        refine WP_ifb (b := x240) rfl (fun c242 => ?_) (fun c242 => ?_)
                        · have hF := iteB_t c242 hF
                          have hR := Option.some.inj hF
                          subst hR
                          refine (WP_skip (thenQ_n (And.intro ?_ ?_)))
                          · repeat' (first | with_reducible exact Fr_refl | refine Fr_upd rfl ?_ | refine Fr_over rfl rfl ?_)
                          · exact ⟨(), (Sl_cons rfl Sl_nil), H.pick [] (by decide)⟩
                        · have hF := iteB_f c242 hF
                          refine WP_seq_k fun K243 hK243 => ?_
                          refine WP_region ?_
                          obtain ⟨x244, e245, hF⟩ := letO_some hF
                          refine RL_do rfl rfl (Do_as (Do_eqls (s1 := p0) (s2 := [119, 105, 116, 104, 105, 110]) rfl rfl) (congrArg Value.bool e245)) ?_
                          refine RL_do rfl rfl (Do_assign (v := .bool x244) rfl) ?_
                          refine (RL_nil (thenQ_n (hK243 _ _ ?_)))
                          refine WP_ifb (b := x244) rfl (fun c246 => ?_) (fun c246 => ?_)
                          · have hF := iteB_t c246 hF
                            have hR := Option.some.inj hF
                            subst hR
                            refine (WP_skip (thenQ_n (And.intro ?_ ?_)))
                            · repeat' (first | with_reducible exact Fr_refl | refine Fr_upd rfl ?_ | refine Fr_over rfl rfl ?_)
                            · exact ⟨(), (Sl_cons rfl Sl_nil), H.pick [] (by decide)⟩
                          · have hF := iteB_f c246 hF
                            refine WP_seq_k fun K247 hK247 => ?_
                            refine WP_region ?_
                            obtain ⟨x248, e249, hF⟩ := letO_some hF
                            refine RL_do rfl rfl (Do_as (Do_eqls (s1 := p0) (s2 := [99, 111, 117, 110, 116]) rfl rfl) (congrArg Value.bool e249)) ?_
                            refine RL_do rfl rfl (Do_assign (v := .bool x248) rfl) ?_
                            refine (RL_nil (thenQ_n (hK247 _ _ ?_)))
                            refine WP_ifb (b := x248) rfl (fun c250 => ?_) (fun c250 => ?_)
                            · have hF := iteB_t c250 hF
                              have hR := Option.some.inj hF
                              subst hR
                              refine (WP_skip (thenQ_n (And.intro ?_ ?_)))
                              · repeat' (first | with_reducible exact Fr_refl | refine Fr_upd rfl ?_ | refine Fr_over rfl rfl ?_)
                              · exact ⟨(), (Sl_cons rfl Sl_nil), H.pick [] (by decide)⟩
                            · have hF := iteB_f c250 hF
                              refine WP_seq_k fun K251 hK251 => ?_
                              refine WP_region ?_
                              obtain ⟨x252, e253, hF⟩ := letO_some hF
                              refine RL_do rfl rfl (Do_as (Do_eqls (s1 := p0) (s2 := [111, 102]) rfl rfl) (congrArg Value.bool e253)) ?_
                              refine RL_do rfl rfl (Do_assign (v := .bool x252) rfl) ?_
                              refine (RL_nil (thenQ_n (hK251 _ _ ?_)))
                              refine WP_ifb (b := x252) rfl (fun c254 => ?_) (fun c254 => ?_)
                              · have hF := iteB_t c254 hF
                                have hR := Option.some.inj hF
                                subst hR
                                refine (WP_skip (thenQ_n (And.intro ?_ ?_)))
                                · repeat' (first | with_reducible exact Fr_refl | refine Fr_upd rfl ?_ | refine Fr_over rfl rfl ?_)
                                · exact ⟨(), (Sl_cons rfl Sl_nil), H.pick [] (by decide)⟩
                              · have hF := iteB_f c254 hF
                                refine WP_seq_k fun K255 hK255 => ?_
                                refine WP_region ?_
                                obtain ⟨x256, e257, hF⟩ := letO_some hF
                                refine RL_do rfl rfl (Do_as (Do_eqls (s1 := p0) (s2 := [114, 105, 115, 101, 115]) rfl rfl) (congrArg Value.bool e257)) ?_
                                refine RL_do rfl rfl (Do_assign (v := .bool x256) rfl) ?_
                                refine (RL_nil (thenQ_n (hK255 _ _ ?_)))
                                refine WP_ifb (b := x256) rfl (fun c258 => ?_) (fun c258 => ?_)
                                · have hF := iteB_t c258 hF
                                  have hR := Option.some.inj hF
                                  subst hR
                                  refine (WP_skip (thenQ_n (And.intro ?_ ?_)))
                                  · repeat' (first | with_reducible exact Fr_refl | refine Fr_upd rfl ?_ | refine Fr_over rfl rfl ?_)
                                  · exact ⟨(), (Sl_cons rfl Sl_nil), H.pick [] (by decide)⟩
                                · have hF := iteB_f c258 hF
                                  refine WP_region ?_
                                  obtain ⟨x259, e260, hF⟩ := letO_some hF
                                  refine RL_do rfl rfl (Do_as (Do_eqls (s1 := p0) (s2 := [115, 105, 110, 99, 101]) rfl rfl) (congrArg Value.bool e260)) ?_
                                  refine RL_do rfl rfl (Do_assign (v := .bool x259) rfl) ?_
                                  have hR := Option.some.inj hF
                                  subst hR
                                  refine (RL_nil (thenQ_n (And.intro ?_ ?_)))
                                  · repeat' (first | with_reducible exact Fr_refl | refine Fr_upd rfl ?_ | refine Fr_over rfl rfl ?_)
                                  · exact ⟨(), (Sl_cons rfl Sl_nil), H.pick [] (by decide)⟩
  · rintro _ ρ w197 H
    have hF := hK198
    refine WP_ifb (b := g196) rfl (fun c261 => ?_) (fun c261 => ?_)
    · have hF := iteB_t c261 hF
      refine WP_seq_k fun K262 hK262 => ?_
      refine WP_region ?_
      refine RL_do rfl rfl (Do_assign (v := .bool true) rfl) ?_
      refine (RL_nil (thenQ_n (hK262 _ _ ?_)))
      have hR := Option.some.inj hF
      subst hR
      refine (WP_ret (blockQ_r (thenQ_r (post1 (v1 := .bool true) rfl rfl ?_))))
      exact ⟨rfl, H.pick [] (by decide)⟩
    · have hF := iteB_f c261 hF
      refine (WP_skip (blockQ_n (thenQ_n (hK132 _ _ ?_))))
      refine WP_seq_k fun K263 hK263 => ?_
      refine WP_region ?_
      refine RL_do rfl rfl (Do_assign (v := .bool false) rfl) ?_
      refine (RL_nil (thenQ_n (hK263 _ _ ?_)))
      have hR := Option.some.inj hF
      subst hR
      refine (WP_ret (post1 (v1 := .bool false) rfl rfl ?_))
      exact ⟨rfl, H.pick [] (by decide)⟩
end Go.Proofs.Ytbjhondbheijiaa
namespace Go.Proofs.Ytbjhondbheijiaa
open Go.RowKit Go.OB Go.Lf
/- orangebox/event.nameByte -/
set_option maxHeartbeats 4000000 in
theorem F_event_nameByte_w (p0 : Int) (r : Bool) (hF : F_event_nameByte p0 = some r) (O S : List Nat) (w : World) (H : Hd O w w S []) :
    Calls Try.prog 36 ([.int .u8 p0] : List Value).toArray w fun e w' => e = .returned (.bool r) ∧ Hd O w w' S [] := by
  unfold F_event_nameByte at hF
  refine calls_of_WP 21 Try.func36 rfl rfl rfl ?_
  refine WP_seq_k fun K1 hK1 => ?_
  refine WP_region ?_
  refine RL_do rfl rfl (Do_assign (v := .bool false) rfl) ?_
  refine (RL_nil (thenQ_n (hK1 _ _ ?_)))
  obtain ⟨g28, hF, hK30⟩ := bindO_some hF
  refine WP_seqS [2, 3, 4, 5, 6, 7, 8, 9, 10, 11, 12, 13, 14, 15, 16, 17, 18, 19, 20] (fun (g : Unit) => [(2, .bool g28)]) (fun g wl => Hd O w wl S []) ?_ ?_
  · skip
    refine WP_region ?_
    refine RL_do rfl rfl (Do_move (v := .int .u8 p0) rfl) ?_
    obtain ⟨x31, e32, hF⟩ := letO_some hF
    refine RL_do rfl rfl (Do_as (Do_geq (a := p0) (b := 97) rfl rfl) (congrArg Value.bool e32)) ?_
    refine RL_splitb (b := x31) rfl rfl rfl (fun c33 => ?_) (fun c33 => ?_)
    · have hF := iteB_t c33 hF
      refine RL_do rfl rfl (Do_move (v := .int .u8 p0) rfl) ?_
      obtain ⟨x34, e35, hF⟩ := letO_some hF
      refine RL_do rfl rfl (Do_as (Do_leq (a := p0) (b := 122) rfl rfl) (congrArg Value.bool e35)) ?_
      refine RL_do rfl rfl (Do_pick_t (v := .bool x34) rfl rfl) ?_
      refine RL_splitb (b := x34) rfl rfl rfl (fun c36 => ?_) (fun c36 => ?_)
      · have hF := iteB_t c36 hF
        refine RL_off rfl rfl ?_
        refine RL_off rfl rfl ?_
        refine RL_off rfl rfl ?_
        refine RL_off rfl rfl ?_
        refine RL_off rfl rfl ?_
        refine RL_off rfl rfl ?_
        refine RL_do rfl rfl (Do_pick_t (v := .bool true) rfl rfl) ?_
        refine RL_do rfl rfl (Do_move (v := .bool true) rfl) ?_
        refine RL_off rfl rfl ?_
        refine RL_off rfl rfl ?_
        refine RL_do rfl rfl (Do_pick_t (v := .bool true) rfl rfl) ?_
        refine RL_do rfl rfl (Do_assign (v := .bool true) rfl) ?_
        have hR := Option.some.inj hF
        subst hR
        refine (RL_nil (thenQ_n (And.intro ?_ ?_)))
        · repeat' (first | with_reducible exact Fr_refl | refine Fr_upd rfl ?_ | refine Fr_over rfl rfl ?_)
        · exact ⟨(), (Sl_cons rfl Sl_nil), H.pick [] (by decide)⟩
      · have hF := iteB_f c36 hF
        refine RL_do rfl rfl (Do_move (v := .int .u8 p0) rfl) ?_
        obtain ⟨x37, e38, hF⟩ := letO_some hF
        refine RL_do rfl rfl (Do_as (Do_geq (a := p0) (b := 48) rfl rfl) (congrArg Value.bool e38)) ?_
        refine RL_splitb (b := x37) rfl rfl rfl (fun c39 => ?_) (fun c39 => ?_)
        · have hF := iteB_t c39 hF
          refine RL_do rfl rfl (Do_move (v := .int .u8 p0) rfl) ?_
          obtain ⟨x40, e41, hF⟩ := letO_some hF
          refine RL_do rfl rfl (Do_as (Do_leq (a := p0) (b := 57) rfl rfl) (congrArg Value.bool e41)) ?_
          refine RL_do rfl rfl (Do_pick_t (v := .bool x40) rfl rfl) ?_
          refine RL_do rfl rfl (Do_pick_f (v := .bool x40) rfl rfl) ?_
          refine RL_splitb (b := x40) rfl rfl rfl (fun c42 => ?_) (fun c42 => ?_)
          · have hF := iteB_t c42 hF
            refine RL_off rfl rfl ?_
            refine RL_off rfl rfl ?_
            refine RL_do rfl rfl (Do_pick_t (v := .bool true) rfl rfl) ?_
            refine RL_do rfl rfl (Do_assign (v := .bool true) rfl) ?_
            have hR := Option.some.inj hF
            subst hR
            refine (RL_nil (thenQ_n (And.intro ?_ ?_)))
            · repeat' (first | with_reducible exact Fr_refl | refine Fr_upd rfl ?_ | refine Fr_over rfl rfl ?_)
            · exact ⟨(), (Sl_cons rfl Sl_nil), H.pick [] (by decide)⟩
          · have hF := iteB_f c42 hF
            refine RL_do rfl rfl (Do_move (v := .int .u8 p0) rfl) ?_
            obtain ⟨x43, e44, hF⟩ := letO_some hF
            refine RL_do rfl rfl (Do_as (Do_eql (a := p0) (b := 45) rfl rfl) (congrArg Value.bool e44)) ?_
            refine RL_do rfl rfl (Do_pick_f (v := .bool x43) rfl rfl) ?_
            refine RL_do rfl rfl (Do_assign (v := .bool x43) rfl) ?_
            have hR := Option.some.inj hF
            subst hR
            refine (RL_nil (thenQ_n (And.intro ?_ ?_)))
            · repeat' (first | with_reducible exact Fr_refl | refine Fr_upd rfl ?_ | refine Fr_over rfl rfl ?_)
            · exact ⟨(), (Sl_cons rfl Sl_nil), H.pick [] (by decide)⟩
        · have hF := iteB_f c39 hF
          refine RL_off rfl rfl ?_
          refine RL_off rfl rfl ?_
          refine RL_do rfl rfl (Do_pick_f (v := .bool false) rfl rfl) ?_
          refine RL_do rfl rfl (Do_pick_f (v := .bool false) rfl rfl) ?_
          refine RL_do rfl rfl (Do_move (v := .bool false) rfl) ?_
          refine RL_do rfl rfl (Do_move (v := .int .u8 p0) rfl) ?_
          obtain ⟨x45, e46, hF⟩ := letO_some hF
          refine RL_do rfl rfl (Do_as (Do_eql (a := p0) (b := 45) rfl rfl) (congrArg Value.bool e46)) ?_
          refine RL_do rfl rfl (Do_pick_f (v := .bool x45) rfl rfl) ?_
          refine RL_do rfl rfl (Do_assign (v := .bool x45) rfl) ?_
          have hR := Option.some.inj hF
          subst hR
          refine (RL_nil (thenQ_n (And.intro ?_ ?_)))
          · repeat' (first | with_reducible exact Fr_refl | refine Fr_upd rfl ?_ | refine Fr_over rfl rfl ?_)
          · exact ⟨(), (Sl_cons rfl Sl_nil), H.pick [] (by decide)⟩
    · have hF := iteB_f c33 hF
      refine RL_off rfl rfl ?_
      refine RL_off rfl rfl ?_
      refine RL_do rfl rfl (Do_pick_f (v := .bool false) rfl rfl) ?_
      refine RL_do rfl rfl (Do_move (v := .bool false) rfl) ?_
      refine RL_do rfl rfl (Do_move (v := .int .u8 p0) rfl) ?_
      obtain ⟨x47, e48, hF⟩ := letO_some hF
      refine RL_do rfl rfl (Do_as (Do_geq (a := p0) (b := 48) rfl rfl) (congrArg Value.bool e48)) ?_
      refine RL_splitb (b := x47) rfl rfl rfl (fun c49 => ?_) (fun c49 => ?_)
      · have hF := iteB_t c49 hF
        refine RL_do rfl rfl (Do_move (v := .int .u8 p0) rfl) ?_
        obtain ⟨x50, e51, hF⟩ := letO_some hF
        refine RL_do rfl rfl (Do_as (Do_leq (a := p0) (b := 57) rfl rfl) (congrArg Value.bool e51)) ?_
        refine RL_do rfl rfl (Do_pick_t (v := .bool x50) rfl rfl) ?_
        refine RL_do rfl rfl (Do_pick_f (v := .bool x50) rfl rfl) ?_
        refine RL_splitb (b := x50) rfl rfl rfl (fun c52 => ?_) (fun c52 => ?_)
        · have hF := iteB_t c52 hF
          refine RL_off rfl rfl ?_
          refine RL_off rfl rfl ?_
          refine RL_do rfl rfl (Do_pick_t (v := .bool true) rfl rfl) ?_
          refine RL_do rfl rfl (Do_assign (v := .bool true) rfl) ?_
          have hR := Option.some.inj hF
          subst hR
          refine (RL_nil (thenQ_n (And.intro ?_ ?_)))
          · repeat' (first | with_reducible exact Fr_refl | refine Fr_upd rfl ?_ | refine Fr_over rfl rfl ?_)
          · exact ⟨(), (Sl_cons rfl Sl_nil), H.pick [] (by decide)⟩
        · have hF := iteB_f c52 hF
          refine RL_do rfl rfl (Do_move (v := .int .u8 p0) rfl) ?_
          obtain ⟨x53, e54, hF⟩ := letO_some hF
          refine RL_do rfl rfl (Do_as (Do_eql (a := p0) (b := 45) rfl rfl) (congrArg Value.bool e54)) ?_
          refine RL_do rfl rfl (Do_pick_f (v := .bool x53) rfl rfl) ?_
          refine RL_do rfl rfl (Do_assign (v := .bool x53) rfl) ?_
          have hR := Option.some.inj hF
          subst hR
          refine (RL_nil (thenQ_n (And.intro ?_ ?_)))
          · repeat' (first | with_reducible exact Fr_refl | refine Fr_upd rfl ?_ | refine Fr_over rfl rfl ?_)
          · exact ⟨(), (Sl_cons rfl Sl_nil), H.pick [] (by decide)⟩
      · have hF := iteB_f c49 hF
        refine RL_off rfl rfl ?_
        refine RL_off rfl rfl ?_
        refine RL_do rfl rfl (Do_pick_f (v := .bool false) rfl rfl) ?_
        refine RL_do rfl rfl (Do_pick_f (v := .bool false) rfl rfl) ?_
        refine RL_do rfl rfl (Do_move (v := .bool false) rfl) ?_
        refine RL_do rfl rfl (Do_move (v := .int .u8 p0) rfl) ?_
        obtain ⟨x55, e56, hF⟩ := letO_some hF
        refine RL_do rfl rfl (Do_as (Do_eql (a := p0) (b := 45) rfl rfl) (congrArg Value.bool e56)) ?_
        refine RL_do rfl rfl (Do_pick_f (v := .bool x55) rfl rfl) ?_
        refine RL_do rfl rfl (Do_assign (v := .bool x55) rfl) ?_
        have hR := Option.some.inj hF
        subst hR
        refine (RL_nil (thenQ_n (And.intro ?_ ?_)))
        · repeat' (first | with_reducible exact Fr_refl | refine Fr_upd rfl ?_ | refine Fr_over rfl rfl ?_)
        · exact ⟨(), (Sl_cons rfl Sl_nil), H.pick [] (by decide)⟩
  · rintro _ ρ w29 H
    have hF := hK30
    have hR := Option.some.inj hF
    subst hR
    refine (WP_ret (post1 (v1 := .bool g28) rfl rfl ?_))
    exact ⟨rfl, H.pick [] (by decide)⟩
end Go.Proofs.Ytbjhondbheijiaa
namespace Go.Proofs.Ytbjhondbheijiaa
open Go.RowKit Go.OB Go.Lf
/- orangebox/event.isName -/
set_option maxHeartbeats 4000000 in
theorem F_event_isName_w (p0 : Str) (r : Bool) (hF : F_event_isName p0 = some r) (O S : List Nat) (w : World) (H : Hd O w w S []) :
    Calls Try.prog 19 ([.string (bs p0)] : List Value).toArray w fun e w' => e = .returned (.bool r) ∧ Hd O w w' S [] := by
  unfold F_event_isName at hF
  refine calls_of_WP 33 Try.func19 rfl rfl rfl ?_
  refine WP_seq_k fun K1 hK1 => ?_
  refine WP_region ?_
  refine RL_do rfl rfl (Do_assign (v := .bool false) rfl) ?_
  refine (RL_nil (thenQ_n (hK1 _ _ ?_)))
  refine WP_seq_k fun K53 hK53 => ?_
  obtain ⟨g77, hF, hK79⟩ := bindO_some hF
  refine WP_seqS [4, 5, 6, 7, 8, 9, 10, 11, 12, 13, 14, 15, 16, 17, 18, 19, 20, 21] (fun (g : Unit) => [(21, .bool g77)]) (fun g wl => Hd O w wl S []) ?_ ?_
  · skip
    refine WP_region ?_
    refine RL_do rfl rfl (Do_move (v := .string (bs p0)) rfl) ?_
    obtain ⟨x80, e81, hF⟩ := letO_some hF
    refine RL_do rfl rfl (Do_as (Do_slen (s1 := p0) u9 rfl) (congrArg (Value.int .i64) e81)) ?_
    obtain ⟨x82, e83, hF⟩ := bindO_some hF
    refine RL_call rfl rfl (DoC_func en34 rfl) (F_event_within_w x80 1 30 _ e83 _ _ _ (H.enter [] [] (by decide) rfl)) ?_
    rintro _ w84 ⟨rfl, G85⟩
    have H := H.back0 [] rfl G85
    refine ⟨_, rfl, ?_⟩
    obtain ⟨x86, e87, hF⟩ := letO_some hF
    refine RL_do rfl rfl (Do_as (Do_not (p := x82) rfl) (congrArg Value.bool e87)) ?_
    refine RL_splitb (b := x86) rfl rfl rfl (fun c88 => ?_) (fun c88 => ?_)
    · have hF := iteB_t c88 hF
      refine RL_off rfl rfl ?_
      refine RL_off rfl rfl ?_
      refine RL_off rfl rfl ?_
      refine RL_do rfl rfl (Do_pick_t (v := .bool true) rfl rfl) ?_
      refine RL_do rfl rfl (Do_move (v := .bool true) rfl) ?_
      refine RL_off rfl rfl ?_
      refine RL_off rfl rfl ?_
      refine RL_off rfl rfl ?_
      refine RL_do rfl rfl (Do_pick_t (v := .bool true) rfl rfl) ?_
      refine RL_do rfl rfl (Do_move (v := .bool true) rfl) ?_
      refine RL_off rfl rfl ?_
      refine RL_off rfl rfl ?_
      refine RL_do rfl rfl (Do_pick_t (v := .bool true) rfl rfl) ?_
      have hR := Option.some.inj hF
      subst hR
      refine (RL_nil (thenQ_n (And.intro ?_ ?_)))
      · repeat' (first | with_reducible exact Fr_refl | refine Fr_upd rfl ?_ | refine Fr_over rfl rfl ?_)
      · exact ⟨(), (Sl_cons rfl Sl_nil), H.pick [] (by decide)⟩
    · have hF := iteB_f c88 hF
      refine RL_do rfl rfl (Do_move (v := .string (bs p0)) rfl) ?_
      obtain ⟨x89, e90, hF⟩ := bindO_some hF
      refine RL_do rfl rfl (Do_sidx (s1 := p0) (q := 0) u9 rfl rfl e90) ?_
      obtain ⟨x91, e92, hF⟩ := letO_some hF
      refine RL_do rfl rfl (Do_as (Do_lss (a := x89) (b := 97) rfl rfl) (congrArg Value.bool e92)) ?_
      refine RL_do rfl rfl (Do_pick_f (v := .bool x91) rfl rfl) ?_
      refine RL_splitb (b := x91) rfl rfl rfl (fun c93 => ?_) (fun c93 => ?_)
      · have hF := iteB_t c93 hF
        refine RL_off rfl rfl ?_
        refine RL_off rfl rfl ?_
        refine RL_off rfl rfl ?_
        refine RL_do rfl rfl (Do_pick_t (v := .bool true) rfl rfl) ?_
        refine RL_do rfl rfl (Do_move (v := .bool true) rfl) ?_
        refine RL_off rfl rfl ?_
        refine RL_off rfl rfl ?_
        refine RL_do rfl rfl (Do_pick_t (v := .bool true) rfl rfl) ?_
        have hR := Option.some.inj hF
        subst hR
        refine (RL_nil (thenQ_n (And.intro ?_ ?_)))
        · repeat' (first | with_reducible exact Fr_refl | refine Fr_upd rfl ?_ | refine Fr_over rfl rfl ?_)
        · exact ⟨(), (Sl_cons rfl Sl_nil), H.pick [] (by decide)⟩
      · have hF := iteB_f c93 hF
        refine RL_do rfl rfl (Do_move (v := .string (bs p0)) rfl) ?_
        obtain ⟨x94, e95, hF⟩ := bindO_some hF
        refine RL_do rfl rfl (Do_sidx (s1 := p0) (q := 0) u9 rfl rfl e95) ?_
        obtain ⟨x96, e97, hF⟩ := letO_some hF
        refine RL_do rfl rfl (Do_as (Do_gtr (a := x94) (b := 122) rfl rfl) (congrArg Value.bool e97)) ?_
        refine RL_do rfl rfl (Do_pick_f (v := .bool x96) rfl rfl) ?_
        refine RL_splitb (b := x96) rfl rfl rfl (fun c98 => ?_) (fun c98 => ?_)
        · have hF := iteB_t c98 hF
          refine RL_off rfl rfl ?_
          refine RL_off rfl rfl ?_
          refine RL_do rfl rfl (Do_pick_t (v := .bool true) rfl rfl) ?_
          have hR := Option.some.inj hF
          subst hR
          refine (RL_nil (thenQ_n (And.intro ?_ ?_)))
          · repeat' (first | with_reducible exact Fr_refl | refine Fr_upd rfl ?_ | refine Fr_over rfl rfl ?_)
          · exact ⟨(), (Sl_cons rfl Sl_nil), H.pick [] (by decide)⟩
        · have hF := iteB_f c98 hF
          refine RL_do rfl rfl (Do_move (v := .string (bs p0)) rfl) ?_
          obtain ⟨x99, e100, hF⟩ := bindO_some hF
          refine RL_call rfl rfl (DoC_func en35 rfl) (F_event_isWord_w p0 _ e100 _ _ _ (H.enter [] [] (by decide) rfl)) ?_
          rintro _ w101 ⟨rfl, G102⟩
          have H := H.back0 [] rfl G102
          refine ⟨_, rfl, ?_⟩
          refine RL_do rfl rfl (Do_pick_f (v := .bool x99) rfl rfl) ?_
          have hR := Option.some.inj hF
          subst hR
          refine (RL_nil (thenQ_n (And.intro ?_ ?_)))
          · repeat' (first | with_reducible exact Fr_refl | refine Fr_upd rfl ?_ | refine Fr_over rfl rfl ?_)
          · exact ⟨(), (Sl_cons rfl Sl_nil), H.pick [] (by decide)⟩
  · rintro _ ρ w78 H
    have hF := hK79
    refine WP_ifb (b := g77) rfl (fun c103 => ?_) (fun c103 => ?_)
    · have hF := iteB_t c103 hF
      refine WP_seq_k fun K104 hK104 => ?_
      refine WP_region ?_
      refine RL_do rfl rfl (Do_assign (v := .bool false) rfl) ?_
      refine (RL_nil (thenQ_n (hK104 _ _ ?_)))
      have hR := Option.some.inj hF
      subst hR
      refine (WP_ret (thenQ_r (post1 (v1 := .bool false) rfl rfl ?_)))
      exact ⟨rfl, H.pick [] (by decide)⟩
    · have hF := iteB_f c103 hF
      refine (WP_skip (thenQ_n (hK53 _ _ ?_)))
      obtain ⟨k216, ek217, hF⟩ := joinO_some hF
      refine WP_seqS [2, 3, 22, 23, 24, 25, 26, 27, 28, 29, 30, 31, 32] (fun (g : Unit) => []) (fun g wl => Hd O w wl S [] ∧ k216 () = some r) ?_ ?_
      · skip
        refine WP_seq_k fun K218 hK218 => ?_
        refine WP_region ?_
        refine RL_do rfl rfl (Do_move (v := .string (bs p0)) rfl) ?_
        obtain ⟨x219, e220, hF⟩ := letO_some hF
        refine RL_do rfl rfl (Do_as (Do_slen (s1 := p0) u9 rfl) (congrArg (Value.int .i64) e220)) ?_
        refine RL_do rfl rfl (Do_move (v := .int .i64 0) rfl) ?_
        refine (RL_nil (thenQ_n (hK218 _ _ ?_)))
        refine WP_block ?_
        unfold F_event_isName_L1 at hF
        obtain ⟨B289, n290, eB291, hF⟩ := loopO_some hF
        refine WP_loopS [2, 3, 24, 25, 26, 27, 28, 29, 30, 31, 32] (fun (g : Nat × Int) => [(24, .int .i64 g.2)]) (fun g wl => Hd O w wl S [] ∧ loopN B289 g.1 g.2 = some r) (fun g => g.1) (n290, 0) (Sl_cons rfl Sl_nil) ⟨H.pick [] (by decide), hF⟩ ?_
        clear H hF
        rintro ⟨n290, g288⟩ ρ w293 ⟨H, hF⟩
        obtain ⟨n294, rfl, hF⟩ := loopN_pos hF
        have hF := loop_body eB291 hF
        refine WP_seq_k fun K295 hK295 => ?_
        refine WP_region ?_
        obtain ⟨x296, e297, hF⟩ := letO_some hF
        refine RL_do rfl rfl (Do_as (Do_lss (a := g288) (b := x219) rfl rfl) (congrArg Value.bool e297)) ?_
        refine (RL_nil (thenQ_n (hK295 _ _ ?_)))
        refine WP_seq_k fun K299 hK299 => ?_
        refine WP_ifb (b := x296) rfl (fun c300 => ?_) (fun c300 => ?_)
        · have hF := iteB_t c300 hF
          refine (WP_skip (thenQ_n (hK299 _ _ ?_)))
          refine WP_seq_k fun K313 hK313 => ?_
          refine WP_block ?_
          refine WP_seq_k fun K314 hK314 => ?_
          refine WP_region ?_
          refine RL_do rfl rfl (Do_move (v := .int .i64 g288) rfl) ?_
          refine RL_do rfl rfl (Do_assign (v := .int .i64 g288) rfl) ?_
          refine (RL_nil (thenQ_n (hK314 _ _ ?_)))
          refine WP_seq_k fun K315 hK315 => ?_
          refine WP_region ?_
          refine RL_do rfl rfl (Do_move (v := .string (bs p0)) rfl) ?_
          refine RL_do rfl rfl (Do_move (v := .int .i64 g288) rfl) ?_
          obtain ⟨x316, e317, hF⟩ := bindO_some hF
          refine RL_do rfl rfl (Do_sidx (s1 := p0) (q := g288) u9 rfl rfl e317) ?_
          obtain ⟨x318, e319, hF⟩ := bindO_some hF
          refine RL_call rfl rfl (DoC_func en36 rfl) (F_event_nameByte_w x316 _ e319 _ _ _ (H.enter [] [] (by decide) rfl)) ?_
          rintro _ w320 ⟨rfl, G321⟩
          have H := H.back0 [] rfl G321
          refine ⟨_, rfl, ?_⟩
          obtain ⟨x322, e323, hF⟩ := letO_some hF
          refine RL_do rfl rfl (Do_as (Do_not (p := x318) rfl) (congrArg Value.bool e323)) ?_
          refine (RL_nil (thenQ_n (hK315 _ _ ?_)))
          refine WP_ifb (b := x322) rfl (fun c324 => ?_) (fun c324 => ?_)
          · have hF := iteB_t c324 hF
            refine WP_seq_k fun K325 hK325 => ?_
            refine WP_region ?_
            refine RL_do rfl rfl (Do_assign (v := .bool false) rfl) ?_
            refine (RL_nil (thenQ_n (hK325 _ _ ?_)))
            have hR := Option.some.inj hF
            subst hR
            refine (WP_ret (blockQ_r (thenQ_r (thenQ_r (blockQ_r (thenQ_r (post1 (v1 := .bool false) rfl rfl ?_)))))))
            exact ⟨rfl, H.pick [] (by decide)⟩
          · have hF := iteB_f c324 hF
            refine (WP_skip (blockQ_n (thenQ_n (hK313 _ _ ?_))))
            refine WP_region ?_
            obtain ⟨x326, e327, hF⟩ := letO_some hF
            refine RL_do rfl rfl (Do_add (a := g288) (b := 1) rfl rfl e327) ?_
            refine RL_do rfl rfl (Do_move (v := .int .i64 x326) rfl) ?_
            refine (RL_nil (thenQ_n (And.intro ?_ ?_)))
            · repeat' (first | with_reducible exact Fr_refl | refine Fr_upd rfl ?_ | refine Fr_over rfl rfl ?_)
            · exact ⟨(n294, x326), (Sl_cons rfl Sl_nil), ⟨H.pick [] (by decide), hF⟩, Nat.lt_succ_self _⟩
        · have hF := iteB_f c300 hF
          refine (WP_exit (thenQ_x (thenQ_x (blockQ_eq (thenQ_n (And.intro ?_ ?_))))))
          · repeat' (first | with_reducible exact Fr_refl | refine Fr_upd rfl ?_ | refine Fr_over rfl rfl ?_)
          · exact ⟨(), Sl_nil, ⟨H.pick [] (by decide), hF⟩⟩
      · rintro _ ρ w215 ⟨H, hF⟩
        have hF := join_body ek217 hF
        refine WP_seq_k fun K328 hK328 => ?_
        refine WP_region ?_
        refine RL_do rfl rfl (Do_assign (v := .bool true) rfl) ?_
        refine (RL_nil (thenQ_n (hK328 _ _ ?_)))
        have hR := Option.some.inj hF
        subst hR
        refine (WP_ret (post1 (v1 := .bool true) rfl rfl ?_))
        exact ⟨rfl, H.pick [] (by decide)⟩
end Go.Proofs.Ytbjhondbheijiaa
namespace Go.Proofs.Ytbjhondbheijiaa
open Go.RowKit Go.OB Go.Lf
/- orangebox/event.IsName -/
set_option maxHeartbeats 4000000 in
theorem F_event_IsName_w (p0 : Str) (r : Bool) (hF : F_event_IsName p0 = some r) (O S : List Nat) (w : World) (H : Hd O w w S []) :
    Calls Try.prog 9 ([.string (bs p0)] : List Value).toArray w fun e w' => e = .returned (.bool r) ∧ Hd O w w' S [] := by
  unfold F_event_IsName at hF
  refine calls_of_WP 5 Try.func9 rfl rfl rfl ?_
  refine WP_seq_k fun K1 hK1 => ?_
  refine WP_region ?_
  refine RL_do rfl rfl (Do_assign (v := .bool false) rfl) ?_
  refine (RL_nil (thenQ_n (hK1 _ _ ?_)))
  refine WP_seq_k fun K2 hK2 => ?_
  refine WP_region ?_
  refine RL_do rfl rfl (Do_move (v := .string (bs p0)) rfl) ?_
  obtain ⟨x3, e4, hF⟩ := bindO_some hF
  refine RL_call rfl rfl (DoC_func en19 rfl) (F_event_isName_w p0 _ e4 _ _ _ (H.enter [] [] (by decide) rfl)) ?_
  rintro _ w5 ⟨rfl, G6⟩
  have H := H.back0 [] rfl G6
  refine ⟨_, rfl, ?_⟩
  refine RL_do rfl rfl (Do_assign (v := .bool x3) rfl) ?_
  refine (RL_nil (thenQ_n (hK2 _ _ ?_)))
  have hR := Option.some.inj hF
  subst hR
  refine (WP_ret (post1 (v1 := .bool x3) rfl rfl ?_))
  exact ⟨rfl, H.pick [] (by decide)⟩
end Go.Proofs.Ytbjhondbheijiaa
namespace Go.Proofs.Ytbjhondbheijiaa
open Go.RowKit Go.OB Go.Lf
/- orangebox/fleet.within -/
set_option maxHeartbeats 4000000 in
theorem F_fleet_within_w (p0 : Int) (p1 : Int) (p2 : Int) (r : Bool) (hF : F_fleet_within p0 p1 p2 = some r) (O S : List Nat) (w : World) (H : Hd O w w S []) :
    Calls Try.prog 17 ([.int .i64 p0, .int .i64 p1, .int .i64 p2] : List Value).toArray w fun e w' => e = .returned (.bool r) ∧ Hd O w w' S [] := by
  unfold F_fleet_within at hF
  refine calls_of_WP 15 Try.func17 rfl rfl rfl ?_
  refine WP_seq_k fun K1 hK1 => ?_
  refine WP_region ?_
  refine RL_do rfl rfl (Do_assign (v := .bool false) rfl) ?_
  refine (RL_nil (thenQ_n (hK1 _ _ ?_)))
  obtain ⟨g7, hF, hK9⟩ := bindO_some hF
  refine WP_seqS [6, 7, 8, 9, 10, 11, 12, 13, 14] (fun (g : Unit) => [(6, .bool g7)]) (fun g wl => Hd O w wl S []) ?_ ?_
  · skip
    refine WP_region ?_
    refine RL_do rfl rfl (Do_move (v := .int .i64 p0) rfl) ?_
    refine RL_do rfl rfl (Do_move (v := .int .i64 p1) rfl) ?_
    obtain ⟨x10, e11, hF⟩ := letO_some hF
    refine RL_do rfl rfl (Do_as (Do_geq (a := p0) (b := p1) rfl rfl) (congrArg Value.bool e11)) ?_
    refine RL_splitb (b := x10) rfl rfl rfl (fun c12 => ?_) (fun c12 => ?_)
    · have hF := iteB_t c12 hF
      refine RL_do rfl rfl (Do_move (v := .int .i64 p0) rfl) ?_
      refine RL_do rfl rfl (Do_move (v := .int .i64 p2) rfl) ?_
      obtain ⟨x13, e14, hF⟩ := letO_some hF
      refine RL_do rfl rfl (Do_as (Do_leq (a := p0) (b := p2) rfl rfl) (congrArg Value.bool e14)) ?_
      refine RL_do rfl rfl (Do_pick_t (v := .bool x13) rfl rfl) ?_
      refine RL_do rfl rfl (Do_assign (v := .bool x13) rfl) ?_
      have hR := Option.some.inj hF
      subst hR
      refine (RL_nil (thenQ_n (And.intro ?_ ?_)))
      · repeat' (first | with_reducible exact Fr_refl | refine Fr_upd rfl ?_ | refine Fr_over rfl rfl ?_)
      · exact ⟨(), (Sl_cons rfl Sl_nil), H.pick [] (by decide)⟩
    · have hF := iteB_f c12 hF
      refine RL_off rfl rfl ?_
      refine RL_off rfl rfl ?_
      refine RL_off rfl rfl ?_
      refine RL_do rfl rfl (Do_pick_f (v := .bool false) rfl rfl) ?_
      refine RL_do rfl rfl (Do_assign (v := .bool false) rfl) ?_
      have hR := Option.some.inj hF
      subst hR
      refine (RL_nil (thenQ_n (And.intro ?_ ?_)))
      · repeat' (first | with_reducible exact Fr_refl | refine Fr_upd rfl ?_ | refine Fr_over rfl rfl ?_)
      · exact ⟨(), (Sl_cons rfl Sl_nil), H.pick [] (by decide)⟩
  · rintro _ ρ w8 H
    have hF := hK9
    have hR := Option.some.inj hF
    subst hR
    refine (WP_ret (post1 (v1 := .bool g7) rfl rfl ?_))
    exact ⟨rfl, H.pick [] (by decide)⟩
end Go.Proofs.Ytbjhondbheijiaa
namespace Go.Proofs.Ytbjhondbheijiaa
open Go.RowKit Go.OB Go.Lf
/- orangebox/event.CheckTracks$1 -/
set_option maxHeartbeats 4000000 in
theorem F_event_CheckTracks_1_w (p0 : Track) (c0 : Track) (v1 : Value) (b3 : Nat) (v4 : Value) (r : Bool) (hF : F_event_CheckTracks_1 p0 c0 = some r) (O S : List Nat) (w : World) (H : Hd O w w S [.blk b3 [.string (bs c0.Name), .int .i64 c0.Series.Den, v4, .int .i64 c0.Long] 60, .fz (.sl rSample v1 p0.Series.Samples), .fz (.sl rSample v4 c0.Series.Samples)]) :
    Calls Try.prog 32 ([.agg [.string (bs p0.Name), .int .i64 p0.Series.Den, v1, .int .i64 p0.Long].toArray, .pointer (some ⟨b3, 0, none⟩)] : List Value).toArray w fun e w' => e = .returned (.bool r) ∧ Hd O w w' S [.blk b3 [.string (bs c0.Name), .int .i64 c0.Series.Den, v4, .int .i64 c0.Long] 60] := by
  unfold F_event_CheckTracks_1 at hF
  refine calls_of_WP 9 Try.func32 rfl rfl rfl ?_
  refine WP_seq_k fun K7 hK7 => ?_
  refine WP_region ?_
  refine RL_ex rfl rfl (Lx_box (cs := [.string (bs p0.Name), .int .i64 p0.Series.Den, v1, .int .i64 p0.Long]) rfl H) ?_
  rintro _ w10 ⟨b8, rfl, H⟩
  refine RL_do rfl rfl (Do_assign (v := .bool false) rfl) ?_
  refine (RL_nil (thenQ_n (hK7 _ _ ?_)))
  refine WP_seq_k fun K11 hK11 => ?_
  refine WP_region ?_
  refine RL_do rfl rfl (fa60_0 rfl) ?_
  refine RL_do rfl rfl (Do_load one9 rfl (Cells.get (Blk.cells (H.item (i := 3) rfl)) (i := 0) rfl)) ?_
  refine RL_do rfl rfl (fa60_0 rfl) ?_
  refine RL_do rfl rfl (Do_load one9 rfl (Cells.get (Blk.cells (H.item (i := 0) rfl)) (i := 0) rfl)) ?_
  obtain ⟨x12, e13, hF⟩ := letO_some hF
  refine RL_do rfl rfl (Do_as (Do_eqls (s1 := p0.Name) (s2 := c0.Name) rfl rfl) (congrArg Value.bool e13)) ?_
  refine RL_do rfl rfl (Do_assign (v := .bool x12) rfl) ?_
  refine (RL_nil (thenQ_n (hK11 _ _ ?_)))
  have hR := Option.some.inj hF
  subst hR
  refine (WP_ret (post1 (v1 := .bool x12) rfl rfl ?_))
  exact ⟨rfl, H.pick [0] (by decide)⟩
end Go.Proofs.Ytbjhondbheijiaa
namespace Go.Proofs.Ytbjhondbheijiaa
open Go.RowKit Go.OB Go.Lf
/- slices.IndexFunc[[]orangebox/api.Track,orangebox/api.Track]@orangebox/event.CheckTracks$1 -/
set_option maxHeartbeats 4000000 in
theorem F_slices_IndexFunc___api_Track_api_Track__event_CheckTracks_1_w (p0 : List Track) (p1c0 : Track) (v1 : Value) (b3 : Nat) (v4 : Value) (r : Int) (hF : F_slices_IndexFunc___api_Track_api_Track__event_CheckTracks_1 p0 p1c0 = some r) (O S : List Nat) (w : World) (H : Hd O w w S [.blk b3 [.string (bs p1c0.Name), .int .i64 p1c0.Series.Den, v4, .int .i64 p1c0.Long] 60, .fz (.sl rTrack v1 p0), .fz (.sl rSample v4 p1c0.Series.Samples)]) :
    Calls Try.prog 48 ([v1, .func (.func 32) #[] [.pointer (some ⟨b3, 0, none⟩)].toArray] : List Value).toArray w fun e w' => e = .returned (.int .i64 r) ∧ Hd O w w' S [.blk b3 [.string (bs p1c0.Name), .int .i64 p1c0.Series.Den, v4, .int .i64 p1c0.Long] 60] := by
  unfold F_slices_IndexFunc___api_Track_api_Track__event_CheckTracks_1 at hF
  refine calls_of_WP 19 Try.func48 rfl rfl rfl ?_
  refine WP_seq_k fun K7 hK7 => ?_
  refine WP_region ?_
  refine RL_do rfl rfl (Do_assign (v := .int .i64 0) rfl) ?_
  refine (RL_nil (thenQ_n (hK7 _ _ ?_)))
  obtain ⟨k188, ek189, hF⟩ := joinO_some hF
  refine WP_seqS [4, 5, 6, 7, 8, 9, 10, 11, 12, 13, 14, 15, 16, 17, 18] (fun (g : Unit) => []) (fun g wl => Hd O w wl S [.blk b3 [.string (bs p1c0.Name), .int .i64 p1c0.Series.Den, v4, .int .i64 p1c0.Long] 60, .fz (.sl rSample v4 p1c0.Series.Samples)] ∧ k188 () = some r) ?_ ?_
  · skip
    refine WP_seq_k fun K190 hK190 => ?_
    refine WP_region ?_
    refine RL_do rfl rfl (Do_move (v := v1) rfl) ?_
    obtain ⟨x191, e192, hF⟩ := letO_some hF
    obtain ⟨a193, c194, q195⟩ := SlF.len ((H.item (i := 1) rfl))
    refine RL_do rfl rfl (Do_as (Do_len u22 q195) (congrArg (Value.int .i64) e192)) ?_
    refine RL_do rfl rfl (Do_move (v := .int .i64 0) rfl) ?_
    refine (RL_nil (thenQ_n (hK190 _ _ ?_)))
    refine WP_block ?_
    unfold F_slices_IndexFunc___api_Track_api_Track__event_CheckTracks_1_L1 at hF
    obtain ⟨B308, n309, eB310, hF⟩ := loopO_some hF
    refine WP_loopS [4, 5, 8, 9, 10, 11, 12, 13, 14, 15, 16, 17, 18] (fun (g : Nat × Int) => [(8, .int .i64 g.2)]) (fun g wl => Hd O w wl S [.blk b3 [.string (bs p1c0.Name), .int .i64 p1c0.Series.Den, v4, .int .i64 p1c0.Long] 60, .fz (.sl rSample v4 p1c0.Series.Samples), .fz (.sl rTrack v1 p0)] ∧ loopN B308 g.1 g.2 = some r) (fun g => g.1) (n309, 0) (Sl_cons rfl Sl_nil) ⟨H.pick [0, 2, 1] (by decide), hF⟩ ?_
    clear H hF
    rintro ⟨n309, g307⟩ ρ w312 ⟨H, hF⟩
    obtain ⟨n313, rfl, hF⟩ := loopN_pos hF
    have hF := loop_body eB310 hF
    refine WP_seq_k fun K314 hK314 => ?_
    refine WP_region ?_
    obtain ⟨x315, e316, hF⟩ := letO_some hF
    refine RL_do rfl rfl (Do_as (Do_lss (a := g307) (b := x191) rfl rfl) (congrArg Value.bool e316)) ?_
    refine (RL_nil (thenQ_n (hK314 _ _ ?_)))
    refine WP_seq_k fun K318 hK318 => ?_
    refine WP_ifb (b := x315) rfl (fun c319 => ?_) (fun c319 => ?_)
    · have hF := iteB_t c319 hF
      refine (WP_skip (thenQ_n (hK318 _ _ ?_)))
      refine WP_seq_k fun K343 hK343 => ?_
      refine WP_block ?_
      refine WP_seq_k fun K344 hK344 => ?_
      refine WP_region ?_
      refine RL_do rfl rfl (Do_move (v := .int .i64 g307) rfl) ?_
      refine RL_do rfl rfl (Do_assign (v := .int .i64 g307) rfl) ?_
      refine (RL_nil (thenQ_n (hK344 _ _ ?_)))
      refine WP_seq_k fun K345 hK345 => ?_
      refine WP_region ?_
      refine RL_do rfl rfl (Do_move (v := .func (.func 32) #[] [.pointer (some ⟨b3, 0, none⟩)].toArray) rfl) ?_
      refine RL_do rfl rfl (Do_move (v := v1) rfl) ?_
      refine RL_do rfl rfl (Do_move (v := .int .i64 g307) rfl) ?_
      obtain ⟨x346, e347, hF⟩ := bindO_some hF
      obtain ⟨b348, o349, c350, cs351, q352, h355, h353, h354, h356⟩ := rd_at (H.item (i := 2) rfl) e347
      obtain ⟨v357, rfl, h358⟩ := rTrack_open h355
      have H := H.fzs [.at b348 (o349 + g307.toNat * 4) _, .sl rSample v357 x346.Series.Samples] ⟨⟨h353, h354, h356⟩, h358, trivial⟩
      refine RL_do rfl rfl (Do_idx u22 sz60 q352 rfl (at_some e347).1 (at_some e347).2.1 rfl rfl) ?_
      refine RL_do rfl rfl (Do_as (Do_loads (cs := [.string (bs x346.Name), .int .i64 x346.Series.Den, v357, .int .i64 x346.Long]) agg60 rfl sz60 rfl (H.item (i := 3) rfl).2.2) rfl) ?_
      obtain ⟨x361, e362, hF⟩ := bindO_some hF
      refine RL_call rfl rfl (DoC_clo en32 rfl rfl) (F_event_CheckTracks_1_w x346 p1c0 v357 b3 v4 _ e362 _ _ _ (H.enter [0] [4, 1] (by decide) rfl)) ?_
      rintro _ w363 ⟨rfl, G364⟩
      have H : Hd O w w363 S [.fz (.sl rSample v4 p1c0.Series.Samples), .fz (.sl rTrack v1 p0), .fz (.at b348 (o349 + g307.toNat * 4) [.string (bs x346.Name), .int .i64 x346.Series.Den, v357, .int .i64 x346.Long]), .fz (.sl rSample v357 x346.Series.Samples), .blk b3 [.string (bs p1c0.Name), .int .i64 p1c0.Series.Den, v4, .int .i64 p1c0.Long] 60] := H.back [0] [4, 1] rfl G364
      refine ⟨_, rfl, ?_⟩
      refine (RL_nil (thenQ_n (hK345 _ _ ?_)))
      refine WP_ifb (b := x361) rfl (fun c365 => ?_) (fun c365 => ?_)
      · have hF := iteB_t c365 hF
        refine WP_seq_k fun K366 hK366 => ?_
        refine WP_region ?_
        refine RL_do rfl rfl (Do_move (v := .int .i64 g307) rfl) ?_
        refine RL_do rfl rfl (Do_assign (v := .int .i64 g307) rfl) ?_
        refine (RL_nil (thenQ_n (hK366 _ _ ?_)))
        have hR := Option.some.inj hF
        subst hR
        refine (WP_ret (blockQ_r (thenQ_r (thenQ_r (blockQ_r (thenQ_r (post1 (v1 := .int .i64 g307) rfl rfl ?_)))))))
        exact ⟨rfl, H.pick [4] (by decide)⟩
      · have hF := iteB_f c365 hF
        refine (WP_skip (blockQ_n (thenQ_n (hK343 _ _ ?_))))
        refine WP_region ?_
        obtain ⟨x367, e368, hF⟩ := letO_some hF
        refine RL_do rfl rfl (Do_add (a := g307) (b := 1) rfl rfl e368) ?_
        refine RL_do rfl rfl (Do_move (v := .int .i64 x367) rfl) ?_
        refine (RL_nil (thenQ_n (And.intro ?_ ?_)))
        · repeat' (first | with_reducible exact Fr_refl | refine Fr_upd rfl ?_ | refine Fr_over rfl rfl ?_)
        · exact ⟨(n313, x367), (Sl_cons rfl Sl_nil), ⟨H.pick [4, 0, 1] (by decide), hF⟩, Nat.lt_succ_self _⟩
    · have hF := iteB_f c319 hF
      refine (WP_exit (thenQ_x (thenQ_x (blockQ_eq (thenQ_n (And.intro ?_ ?_))))))
      · repeat' (first | with_reducible exact Fr_refl | refine Fr_upd rfl ?_ | refine Fr_over rfl rfl ?_)
      · exact ⟨(), Sl_nil, ⟨H.pick [0, 1] (by decide), hF⟩⟩
  · rintro _ ρ w187 ⟨H, hF⟩
    have hF := join_body ek189 hF
    refine WP_seq_k fun K369 hK369 => ?_
    refine WP_region ?_
    refine RL_do rfl rfl (Do_assign (v := .int .i64 (-1)) rfl) ?_
    refine (RL_nil (thenQ_n (hK369 _ _ ?_)))
    have hR := Option.some.inj hF
    subst hR
    refine (WP_ret (post1 (v1 := .int .i64 (-1)) rfl rfl ?_))
    exact ⟨rfl, H.pick [0] (by decide)⟩
end Go.Proofs.Ytbjhondbheijiaa
namespace Go.Proofs.Ytbjhondbheijiaa
open Go.RowKit Go.OB Go.Lf
/- slices.ContainsFunc[[]orangebox/api.Track,orangebox/api.Track]@orangebox/event.CheckTracks$1 -/
set_option maxHeartbeats 4000000 in
theorem F_slices_ContainsFunc___api_Track_api_Track__event_CheckTracks_1_w (p0 : List Track) (p1c0 : Track) (v1 : Value) (b3 : Nat) (v4 : Value) (r : Bool) (hF : F_slices_ContainsFunc___api_Track_api_Track__event_CheckTracks_1 p0 p1c0 = some r) (O S : List Nat) (w : World) (H : Hd O w w S [.blk b3 [.string (bs p1c0.Name), .int .i64 p1c0.Series.Den, v4, .int .i64 p1c0.Long] 60, .fz (.sl rTrack v1 p0), .fz (.sl rSample v4 p1c0.Series.Samples)]) :
    Calls Try.prog 31 ([v1, .func (.func 32) #[] [.pointer (some ⟨b3, 0, none⟩)].toArray] : List Value).toArray w fun e w' => e = .returned (.bool r) ∧ Hd O w w' S [.blk b3 [.string (bs p1c0.Name), .int .i64 p1c0.Series.Den, v4, .int .i64 p1c0.Long] 60] := by
  unfold F_slices_ContainsFunc___api_Track_api_Track__event_CheckTracks_1 at hF
  refine calls_of_WP 9 Try.func31 rfl rfl rfl ?_
  refine WP_seq_k fun K7 hK7 => ?_
  refine WP_region ?_
  refine RL_do rfl rfl (Do_assign (v := .bool false) rfl) ?_
  refine (RL_nil (thenQ_n (hK7 _ _ ?_)))
  refine WP_seq_k fun K8 hK8 => ?_
  refine WP_region ?_
  refine RL_do rfl rfl (Do_move (v := v1) rfl) ?_
  refine RL_do rfl rfl (Do_move (v := .func (.func 32) #[] [.pointer (some ⟨b3, 0, none⟩)].toArray) rfl) ?_
  obtain ⟨x9, e10, hF⟩ := bindO_some hF
  refine RL_call rfl rfl (DoC_func en48 rfl) (F_slices_IndexFunc___api_Track_api_Track__event_CheckTracks_1_w p0 p1c0 v1 b3 v4 _ e10 _ _ _ (H.enter [0] [1, 2] (by decide) rfl)) ?_
  rintro _ w11 ⟨rfl, G12⟩
  have H : Hd O w w11 S [.fz (.sl rTrack v1 p0), .fz (.sl rSample v4 p1c0.Series.Samples), .blk b3 [.string (bs p1c0.Name), .int .i64 p1c0.Series.Den, v4, .int .i64 p1c0.Long] 60] := H.back [0] [1, 2] rfl G12
  refine ⟨_, rfl, ?_⟩
  obtain ⟨x13, e14, hF⟩ := letO_some hF
  refine RL_do rfl rfl (Do_as (Do_geq (a := x9) (b := 0) rfl rfl) (congrArg Value.bool e14)) ?_
  refine RL_do rfl rfl (Do_assign (v := .bool x13) rfl) ?_
  refine (RL_nil (thenQ_n (hK8 _ _ ?_)))
  have hR := Option.some.inj hF
  subst hR
  refine (WP_ret (post1 (v1 := .bool x13) rfl rfl ?_))
  exact ⟨rfl, H.pick [2] (by decide)⟩
end Go.Proofs.Ytbjhondbheijiaa
namespace Go.Proofs.Ytbjhondbheijiaa
open Go.RowKit Go.OB Go.Lf
/- orangebox/series.within -/
set_option maxHeartbeats 4000000 in
theorem F_series_within_w (p0 : Int) (p1 : Int) (p2 : Int) (r : Bool) (hF : F_series_within p0 p1 p2 = some r) (O S : List Nat) (w : World) (H : Hd O w w S []) :
    Calls Try.prog 52 ([.int .i64 p0, .int .i64 p1, .int .i64 p2] : List Value).toArray w fun e w' => e = .returned (.bool r) ∧ Hd O w w' S [] := by
  unfold F_series_within at hF
  refine calls_of_WP 15 Try.func52 rfl rfl rfl ?_
  refine WP_seq_k fun K1 hK1 => ?_
  refine WP_region ?_
  refine RL_do rfl rfl (Do_assign (v := .bool false) rfl) ?_
  refine (RL_nil (thenQ_n (hK1 _ _ ?_)))
  obtain ⟨g7, hF, hK9⟩ := bindO_some hF
  refine WP_seqS [6, 7, 8, 9, 10, 11, 12, 13, 14] (fun (g : Unit) => [(6, .bool g7)]) (fun g wl => Hd O w wl S []) ?_ ?_
  · skip
    refine WP_region ?_
    refine RL_do rfl rfl (Do_move (v := .int .i64 p0) rfl) ?_
    refine RL_do rfl rfl (Do_move (v := .int .i64 p1) rfl) ?_
    obtain ⟨x10, e11, hF⟩ := letO_some hF
    refine RL_do rfl rfl (Do_as (Do_geq (a := p0) (b := p1) rfl rfl) (congrArg Value.bool e11)) ?_
    refine RL_splitb (b := x10) rfl rfl rfl (fun c12 => ?_) (fun c12 => ?_)
    · have hF := iteB_t c12 hF
      refine RL_do rfl rfl (Do_move (v := .int .i64 p0) rfl) ?_
      refine RL_do rfl rfl (Do_move (v := .int .i64 p2) rfl) ?_
      obtain ⟨x13, e14, hF⟩ := letO_some hF
      refine RL_do rfl rfl (Do_as (Do_leq (a := p0) (b := p2) rfl rfl) (congrArg Value.bool e14)) ?_
      refine RL_do rfl rfl (Do_pick_t (v := .bool x13) rfl rfl) ?_
      refine RL_do rfl rfl (Do_assign (v := .bool x13) rfl) ?_
      have hR := Option.some.inj hF
      subst hR
      refine (RL_nil (thenQ_n (And.intro ?_ ?_)))
      · repeat' (first | with_reducible exact Fr_refl | refine Fr_upd rfl ?_ | refine Fr_over rfl rfl ?_)
      · exact ⟨(), (Sl_cons rfl Sl_nil), H.pick [] (by decide)⟩
    · have hF := iteB_f c12 hF
      refine RL_off rfl rfl ?_
      refine RL_off rfl rfl ?_
      refine RL_off rfl rfl ?_
      refine RL_do rfl rfl (Do_pick_f (v := .bool false) rfl rfl) ?_
      refine RL_do rfl rfl (Do_assign (v := .bool false) rfl) ?_
      have hR := Option.some.inj hF
      subst hR
      refine (RL_nil (thenQ_n (And.intro ?_ ?_)))
      · repeat' (first | with_reducible exact Fr_refl | refine Fr_upd rfl ?_ | refine Fr_over rfl rfl ?_)
      · exact ⟨(), (Sl_cons rfl Sl_nil), H.pick [] (by decide)⟩
  · rintro _ ρ w8 H
    have hF := hK9
    have hR := Option.some.inj hF
    subst hR
    refine (WP_ret (post1 (v1 := .bool g7) rfl rfl ?_))
    exact ⟨rfl, H.pick [] (by decide)⟩
end Go.Proofs.Ytbjhondbheijiaa
