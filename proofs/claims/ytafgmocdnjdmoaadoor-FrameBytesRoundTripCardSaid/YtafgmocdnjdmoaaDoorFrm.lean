/- Frames and bytes as cells. -/
import Derived.Test.YtafgmocdnjdmoaaDoorBitsx
import Derived.Test.YtafgmocdnjdmoaaDoorFpure
namespace Go.Fr1
open Go.RowKit Go.OB
def wds (f : List Nat) : List Value := f.map fun n : Nat => Value.int .u16 (n : Int)
theorem wds_length (f : List Nat) : (wds f).length = f.length := by simp [wds]
theorem wds_get {f : List Nat} {i : Nat} (h : i < f.length) : (wds f)[i]? = some (.int .u16 (wd f i : Nat)) := by
  simp [wds, wd, List.getD, List.getElem?_eq_getElem h]
def bys (l : List Nat) : List Value := l.map fun n : Nat => Value.int .u8 (n : Int)
theorem bys_length (f : List Nat) : (bys f).length = f.length := by simp [bys]
theorem bys_get {f : List Nat} {i : Nat} (h : i < f.length) : (bys f)[i]? = some (.int .u8 (f.getD i 0 : Nat)) := by
  simp [bys, List.getD, List.getElem?_eq_getElem h]
theorem wds_set (f : List Nat) (i n : Nat) : (wds f).set i (.int .u16 (n : Int)) = wds (f.set i n) := by simp [wds, List.map_set]
theorem bys_set (f : List Nat) (i n : Nat) : (bys f).set i (.int .u8 (n : Int)) = bys (f.set i n) := by simp [bys, List.map_set]
theorem wds_setI (f : List Nat) (i : Nat) {x : Int} {n : Nat} (h : x = n) : (wds f).set i (.int .u16 x) = wds (f.set i n) := by subst h; exact wds_set f i n
theorem bys_setI (f : List Nat) (i : Nat) {x : Int} {n : Nat} (h : x = n) : (bys f).set i (.int .u8 x) = bys (f.set i n) := by subst h; exact bys_set f i n
def ints (l : List Int) : List Value := l.map (Value.int .i64)
theorem ints_length (l : List Int) : (ints l).length = l.length := by simp [ints]
theorem ints_get {l : List Int} {i : Nat} (h : i < l.length) : (ints l)[i]? = some (.int .i64 (l.getD i 0)) := by simp [ints, List.getD, List.getElem?_eq_getElem h]
def nats (l : List Nat) : List Value := l.map fun n : Nat => Value.int .i64 (n : Int)
theorem nats_length (l : List Nat) : (nats l).length = l.length := by simp [nats]
theorem nats_get {l : List Nat} {i : Nat} (h : i < l.length) : (nats l)[i]? = some (.int .i64 (wd l i : Nat)) := by simp [nats, wd, List.getD, List.getElem?_eq_getElem h]
theorem one_wds {f : List Nat} : ∀ v ∈ wds f, v.oneCell' = true := by
  intro v h; obtain ⟨n, _, rfl⟩ := List.mem_map.1 h; rfl
theorem one_bys {f : List Nat} : ∀ v ∈ bys f, v.oneCell' = true := by
  intro v h; obtain ⟨n, _, rfl⟩ := List.mem_map.1 h; rfl
theorem one_nats {f : List Nat} : ∀ v ∈ nats f, v.oneCell' = true := by
  intro v h; obtain ⟨n, _, rfl⟩ := List.mem_map.1 h; rfl
theorem wds_zero : List.replicate 64 (Value.int .u16 0) = wds zero64 := by rw [wds, zero64, List.map_replicate]; rfl
theorem Cells.get0 {w : World} {b : Nat} {cs : List Value} (h : Cells w ⟨b, 0, none⟩ cs) {i : Nat} {v : Value} (hi : cs[i]? = some v) : w.cell? ⟨b, i, none⟩ = some v := by
  have := h.get hi; rwa [Nat.zero_add] at this
theorem Cells.off {w : World} {b o : Nat} {xs : List Nat} (h : Cells w ⟨b, o, none⟩ (bys xs)) (q : Nat) : Cells w ⟨b, o + q, none⟩ (bys (xs.drop q)) := by
  intro i v hv
  rw [Addr.add_none, Nat.add_assoc]
  refine h.get ?_
  simpa [bys, List.getElem?_drop] using hv
theorem wd_drop (xs : List Nat) (q i : Nat) : wd (xs.drop q) i = wd xs (q + i) := by unfold wd; simp [List.getD_eq_getElem?_getD, List.getElem?_drop]
theorem Byte.drop {xs : List Nat} (h : Byte xs) (q : Nat) : Byte (xs.drop q) := fun i => by rw [wd_drop]; exact h _
theorem bys_getw {f : List Nat} {i : Nat} (h : i < f.length) : (bys f)[i]? = some (.int .u8 (wd f i : Nat)) := bys_get h
theorem setW_even {L : List Nat} {o i w : Nat} (h : i % 2 = 0) : setW L o i w = (L.set (o + i / 2 * 3) (w / 16)).set (o + (i / 2 * 3 + 1)) (w % 16 * 16 + wd L (o + (i / 2 * 3 + 1)) % 16) := by unfold setW; rw [if_pos h]
theorem setW_odd {L : List Nat} {o i w : Nat} (h : ¬ i % 2 = 0) : setW L o i w = (L.set (o + (i / 2 * 3 + 1)) (wd L (o + (i / 2 * 3 + 1)) / 16 * 16 + w / 256)).set (o + (i / 2 * 3 + 2)) (w % 256) := by unfold setW; rw [if_neg h]
theorem getW_even {L : List Nat} {o i : Nat} (h : i % 2 = 0) : getW L o i = wd L (o + i / 2 * 3) * 16 + wd L (o + (i / 2 * 3 + 1)) / 16 := by unfold getW; rw [if_pos h]
theorem getW_odd {L : List Nat} {o i : Nat} (h : ¬ i % 2 = 0) : getW L o i = wd L (o + (i / 2 * 3 + 1)) % 16 * 256 + wd L (o + (i / 2 * 3 + 2)) := by unfold getW; rw [if_neg h]
theorem nats_snoc2 (L : List Nat) (a b : Nat) {x y : Int} (hx : x = a) (hy : y = b) : nats L ++ [.int .i64 x, .int .i64 y] = nats (L ++ [a, b]) := by subst hx hy; simp [nats]
/-- Bytes, and what lies behind them. -/
def byr (L : List Nat) (R : List Value) : List Value := bys L ++ R
theorem byr_len (L : List Nat) (R : List Value) : (byr L R).length = L.length + R.length := by simp [byr, bys]
theorem byr_get {L : List Nat} {R : List Value} {i : Nat} (h : i < L.length) : (byr L R)[i]? = some (.int .u8 (wd L i : Nat)) := by
  unfold byr
  rw [List.getElem?_append_left (by rw [bys_length]; exact h)]
  exact bys_getw h
theorem byr_setI (L : List Nat) (R : List Value) (i : Nat) (hi : i < L.length) {x : Int} {n : Nat} (h : x = n) : (byr L R).set i (.int .u8 x) = byr (L.set i n) R := by
  subst h
  unfold byr
  rw [List.set_append_left _ _ (by rw [bys_length]; exact hi), bys_set]
theorem byr_nil (L : List Nat) : byr L [] = bys L := by simp [byr]
theorem byr_part {L : List Nat} {R : List Value} {o n : Nat} (h : o + n ≤ L.length) : ((byr L R).drop o).take n = bys ((L.drop o).take n) := by
  unfold byr bys
  rw [List.drop_append_of_le_length (by simp; omega), List.take_append_of_le_length (by simp; omega)]
  simp
end Go.Fr1
