/- Small facts on bytes. -/
import Derived.Test.YtafgmocdnjdmoaaDoorByt
import Derived.Test.YtafgmocdnjdmoaaDoorFrm2
namespace Go.Fr1
open Go.RowKit Go.OB
theorem rep_byte {n : Nat} : Byte (List.replicate n 0) := by
  intro i; unfold wd; rw [List.getD_eq_getElem?_getD, List.getElem?_replicate]; split <;> simp
theorem rep_byr {n : Nat} : List.replicate n (Value.int .u8 0) = byr (List.replicate n 0) [] := by
  rw [byr_nil]; simp [bys, lst]
theorem save_all {f : List Nat} (hf : ∀ i, wd f i < 4096) : byr (saveN (List.replicate 96 0) 0 f) [] = bys (bytesN f) := by
  rw [byr_nil, saveN_lay rep_byte hf (by simp)]
  unfold lay
  rw [bytesN_len]
  simp
theorem slr_nil {w : World} : SlR w (.slice none 0 0) 1 0 (bys []) := ⟨rfl, .inl ⟨rfl, rfl⟩⟩
theorem byte_nil : Byte [] := by intro i; simp [wd]
theorem bys_app (L M : List Nat) : bys (L ++ M) = bys L ++ bys M := by simp [bys, lst]
theorem load_app {f : List Nat} (hl : f.length = 64) (hf : ∀ i, wd f i < 4096) (xs : List Nat) : loadN (bytesN f ++ xs) 0 = f := by
  refine load_bytes hl hf fun i hi => ?_
  have h := bytesN_wd f i
  rw [if_pos hi] at h
  rw [← h]
  unfold wd
  rw [List.getD_eq_getElem?_getD, List.getD_eq_getElem?_getD, List.getElem?_append_left (by rw [bytesN_len]; exact hi)]
end Go.Fr1
