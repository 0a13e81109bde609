/- AppendUint at base 10. -/
import Derived.Test.YthllgjnlmjpinaaGreatDoorHW
import Derived.Test.YthllgjnlmjpinaaGreatDoorPl
import Derived.Lib.AppendIntMem
import Derived.Lib.ItoaMem
import Derived.Lib.ItoaLen
namespace Go.Lf
open Go.RowKit Go.OB Go.Sort
theorem aFg {u : Nat} (h1 : 1 ≤ u) (h2 : u < 18446744073709551616) : Fdz (u : Int) = some ((Lib.nDigits u : Nat) : Int) := by
  have q := Lib.numDigits_eq u h1 h2
  have hb : Lib.bitLen u ≤ 64 := Lib.bitLen_le u 64 (Nat.le_refl _) (by omega)
  unfold Fdz Fdh
  rw [if_pos (by omega), zL, Int.toNat_natCast]
  generalize Lib.bitLen u = b at *
  have e : Fbq (b : Int) = some ((Lib.l10 b : Nat) : Int) := by
    unfold Fbq uP
    simp only [zX]
    rw [wrap_i64 (by omega) (by omega), if_pos (by decide), zL]
    congr 1
  rw [e, zL]
  have hl := q.2
  have hp : at' yB.l ((Lib.l10 b : Nat) : Int) = some ((10 ^ Lib.l10 b : Nat) : Int) := by
    generalize Lib.l10 b = k at hl
    have := (by decide +kernel : ∀ k : Fin 20, at' yB.l ((k.1 : Nat) : Int) = some ((10 ^ k.1 : Nat) : Int)) ⟨k, by omega⟩
    exact this
  rw [hp, zL]
  simp only [zX]
  unfold Fdt
  by_cases c : 10 ^ Lib.l10 b ≤ u
  · rw [decide_eq_true (show ((10 ^ Lib.l10 b : Nat) : Int) ≤ (u : Int) from Int.ofNat_le.2 c), yN, zL, wrap_i64 (by omega) (by omega)]
    rw [if_pos c] at q
    congr 1; omega
  · rw [decide_eq_false (fun h => c (Int.ofNat_le.1 h)), yO, zL, wrap_i64 (by omega) (by omega)]
    rw [if_neg c] at q
    congr 1; omega
def aJp (b:UInt8):Value:= .int .u8 (b.toNat:Int)
theorem Wr.put {w : World} {b : Nat} {cs : List Value} {T : TypeId} (hb : Blk w b cs T) (dk : Array UInt8) (k : Nat) : Wr w ((putRow aJp w b 0 dk).drewN k) b (putCells aJp 0 dk cs.toArray).toList T := by
  have hlt := hb.lt
  unfold Blk at hb
  refine ⟨?_, ⟨rfl, rfl, rfl, ?_, fun i hi hn => ?_⟩, ?_⟩
  · unfold Blk
    rw [World.heap_drewN]
    simp [putRow, mapBlock, Array.getElem?_modify, hb, onCells]
  · rw [World.heap_drewN]; simp
  · rw [World.heap_drewN]
    have hne : b ≠ i := fun e => hn (by simp [e])
    simp [putRow, mapBlock, Array.getElem?_modify, hne]
  · rw [World.heap_drewN]; simp
end Go.Lf
namespace Go.Proofs.YthllgjnlmjpinaaGreatDoor.E
open Go.RowKit Go.OB Go.Lf Go.Sort
theorem xu5:Tryz.prog.underlying 5=some (.int .u8):=Tryz.underlying5
theorem xu9:Tryz.prog.underlying 9=some .string:=Tryz.underlying9
theorem xu50:Tryz.prog.underlying 50=some (.slice 5):=Tryz.underlying50
theorem xu147:Tryz.prog.underlying 147=some (.int .u64):=Tryz.underlying147
theorem xu202:Tryz.prog.underlying 202=some (.array 24 5):=Tryz.underlying202
theorem xsz5:Sz Tryz.prog 5 1:=by unfold Sz; kernel_rfl
theorem xzero202:Go.OB.Zero Tryz.prog 202 (List.replicate 24 (.int .u8 0)):=by unfold Go.OB.Zero; kernel_rfl
theorem xen142:Go.OB.Enters Tryz.prog 142:=⟨_,Tryz.func142,rfl,by kernel_rfl⟩
theorem xen143:Go.OB.Enters Tryz.prog 143:=⟨_,Tryz.func143,rfl,by kernel_rfl⟩
theorem xen144:Go.OB.Enters Tryz.prog 144:=⟨_,Tryz.func144,rfl,by kernel_rfl⟩
theorem small_c {u:Nat}(hu:u<100)(w:World):Calls Tryz.prog 142 #[.int .i64 (u:Int)] w fun e w'=>e= .returned (.string (bs (Lib.decDigits u)))∧w'=w:=Any.internal_strconv_small shLays283 u hu w
end Go.Proofs.YthllgjnlmjpinaaGreatDoor.E
