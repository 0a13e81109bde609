/- Maps of their own: made, filled, asked. -/
import Derived.Test.YtnajnkghilemhaaGreatDoorLf12
import Derived.MapKept
namespace Go.Lf
open Go.RowKit Go.OB
structure Ky (κ : Type) where
  f : κ → Value
  t : TypeDesc
  key : ∀ a, MapKept.IsKey t (f a)
  dec : DecidableEq κ
  now : ∀ a b, Instr.sameNow t (f a) (f b) = some (@decide (a = b) (dec a b))
def Ky.int (k : IntKind) : Ky Int := ⟨fun a => .int k a, .int k, fun _ => rfl, inferInstance, fun a b => by simp [Instr.sameNow, BEq.beq]⟩
def Ky.str : Ky Str := ⟨fun a => .string (bs a), .string, fun _ => trivial, inferInstance, fun a b => by
  show some (bs a == bs b) = some (decide (a = b))
  have e : (bs a == bs b) = (a.toArray == b.toArray) := rfl
  rw [e]
  congr 1
  rw [Bool.eq_iff_iff, beq_iff_eq, decide_eq_true_eq]
  exact ⟨fun h => by simpa using h, fun h => by rw [h]⟩⟩
section
variable {κ ν : Type} (K : Ky κ)
def mget [DecidableEq κ] (l : List (κ × ν)) (k : κ) (z : ν) : ν := match l.find? fun p => decide (p.1 = k) with
  | some p => p.2
  | none => z
def mput [DecidableEq κ] (l : List (κ × ν)) (k : κ) (v : ν) : Option (List (κ × ν)) := if l.any (fun p => decide (p.1 = k)) = true then none else some (l ++ [(k, v)])
def mcells (K : Ky κ) (g : ν → Value) (l : List (κ × ν)) : List (Value × Value) := l.map fun p => (K.f p.1, g p.2)
theorem findNow_eq [inst : DecidableEq κ] (g : ν → Value) (k : κ) : ∀ (es : List MapEntry) (l : List (κ × ν)) (i : Nat), es.map (fun e => (e.key, e.val)) = mcells K g l →
    (l.any (fun p => decide (p.1 = k)) = false → Instr.findNow K.t (K.f k) es i = some none) ∧ (∀ p, l.find? (fun p => decide (p.1 = k)) = some p → ∃ j, Instr.findNow K.t (K.f k) es i = some (some (j, g p.2)))
  | [], [], i, _ => ⟨fun _ => rfl, fun p h => by simp at h⟩
  | [], _ :: _, i, h => by simp [mcells] at h
  | _ :: _, [], i, h => by simp [mcells] at h
  | e :: es, q :: l, i, h => by
    simp only [List.map_cons, mcells, List.cons.injEq, Prod.mk.injEq] at h
    obtain ⟨⟨h1, h2⟩, h3⟩ := h
    have ih := findNow_eq g k es l (i + 1) h3
    have hn := K.now k q.1
    have hd : (@decide (k = q.1) (K.dec k q.1)) = decide (q.1 = k) := by
      by_cases c : q.1 = k
      · simp [c]
      · have c2 : ¬ k = q.1 := fun h => c h.symm
        simp [c, c2]
    rw [hd] at hn
    have e1 : Instr.findNow K.t (K.f k) (e :: es) i = if decide (q.1 = k) = true then some (some (i, e.val)) else Instr.findNow K.t (K.f k) es (i + 1) := by
      rw [Instr.findNow, h1, hn]
      cases decide (q.1 = k) <;> rfl
    rw [e1]
    constructor
    · intro ha
      rw [List.any_cons, Bool.or_eq_false_iff] at ha
      rw [ha.1]
      exact ih.1 ha.2
    · intro p hp
      rw [List.find?_cons] at hp
      cases c : decide (q.1 = k) with
      | true => rw [c] at hp; obtain rfl := Option.some.inj hp; exact ⟨i, by simp [h2]⟩
      | false => rw [c] at hp; obtain ⟨j, hj⟩ := ih.2 p hp; exact ⟨j, by simpa using hj⟩
end
section
variable {P : Program} {ρ : Env} {w w0 : World} {d : Option Tmp} {x y z : Operand} {t kt et ty : TypeId} {pos : String} {af : Array Edge} {g : Option (Nat × Bool)} {O S : List Nat} {l : List Th} {i b : Nat} {κ ν : Type} {K : Ky κ} {G : ν → Value} {m m' : List (κ × ν)} {k : κ} {v : ν}
theorem Lx_mkmap (H : Hd O w0 w S l) : ∃ v w', Do P ⟨d, .makeMap t none, ty, pos, af, g⟩ ρ w v w' ∧ ∃ b, v = .map (some b) ∧ Hd O w0 w' S (l ++ [.mp b []]) := by
  refine ⟨.map (some w.heap.size), w.alloc (.map #[] 0), ?_, w.heap.size, rfl, ?_⟩
  · unfold Do
    simp [execOp, run_makeMap]
  · refine H.add (Only.of_below (MxM.sees_alloc w _)) (fun _ => ⟨#[], 0, ?_, rfl⟩) (fun b hb => ?_) (by simp [Th.blocks])
    · show (w.heap.push _)[w.heap.size]? = _
      simp
    · obtain rfl : b = w.heap.size := by simpa [Th.blocks] using hb
      refine ⟨Nat.le_refl _, ?_⟩
      show _ < (w.heap.push _).size
      simp
theorem Lx_insert [DecidableEq κ] (H : Hd O w0 w S l) (i : Nat) (hi : l[i]? = some (.mp b (mcells K G m))) (hu : P.underlying t = some (.map kt et)) (hk : P.underlying kt = some K.t) (hx : ev ρ x = .map (some b)) (hy : ev ρ y = K.f k) (hz : ev ρ z = G v) (hp : mput m k v = some m') :
    ∃ w', DoU P ⟨none, .insert t x y z, ty, pos, af, g⟩ ρ w w' ∧ Hd O w0 w' S (l.set i (.mp b (mcells K G m'))) := by
  unfold mput at hp
  split at hp
  · cases hp
  · rename_i ha
    obtain rfl := Option.some.inj hp
    have ha : m.any (fun p => decide (p.1 = k)) = false := (Bool.not_eq_true _).mp ha
    obtain ⟨es, c, h1, h2⟩ : ∃ (es : Array MapEntry) (c : Nat), w.heap[b]? = some (.map es c) ∧ es.toList.map (fun e => (e.key, e.val)) = mcells K G m := H.item hi
    have hf := (findNow_eq K G k es.toList m 0 h2).1 ha
    have hs := MapKept.heap_set (o' := Obj.map (es.push { key := K.f k, val := G v, born := c }) (c + 1)) h1
    refine ⟨{ w with heap := w.heap.setIfInBounds b (.map (es.push { key := K.f k, val := G v, born := c }) (c + 1)) }, ?_, ?_⟩
    · unfold DoU
      have q : (Instr.mapUpdate t (.map (some b)) (K.f k) (G v)).run P w = .ok () { w with heap := w.heap.setIfInBounds b (.map (es.push { key := K.f k, val := G v, born := c }) (c + 1)) } := by
        simp [Instr.mapUpdate, run_underlying hu, MapKept.run_getObj_map h1, MapKept.run_checkKey hk (K.key k) false 9999, MapKept.run_findKey hk hf, MapKept.run_setObj_map _ h1, Result.andThen]
      simp [execOp, hx, hy, hz, q]
    · refine H.turn hi ⟨rfl, rfl, rfl, by simp, fun j hj hn => ?_⟩ (fun _ => ⟨_, _, hs.1, ?_⟩) (fun j hj => ?_) (by simp [Th.blocks])
      · exact hs.2 j (by simpa [Th.blocks] using hn)
      · rw [Array.toList_push, List.map_append, h2]
        simp [mcells]
      · obtain rfl : j = b := by simpa [Th.blocks] using hj
        refine ⟨.inl (by simp [Th.blocks]), ?_⟩
        have := (Array.getElem?_eq_some_iff.1 h1).1
        simpa using this
theorem Do_lookup [DecidableEq κ] {F : Nat → Prop} {zv : ν} (h : Th.holds F w (.mp b (mcells K G m))) (hu : P.underlying t = some (.map kt et)) (hk : P.underlying kt = some K.t) (hx : ev ρ x = .map (some b)) (hy : ev ρ y = K.f k) (hz : (zeroValue et).run P w = .ok (G zv) w) :
    Do P ⟨d, .lookup t x y false, ty, pos, af, g⟩ ρ w (G (mget m k zv)) w := by
  obtain ⟨es, c, h1, h2⟩ := h
  unfold Do
  have q : (Instr.lookup t (.map (some b)) (K.f k) false).run P w = .ok (G (mget m k zv)) w := by
    have hc : ∀ e, (Instr.checkKey e 10000 kt (K.f k)).run P w = .ok () w := fun e => MapKept.run_checkKey hk (K.key k) e 9999
    unfold mget
    cases hf : m.find? fun p => decide (p.1 = k) with
    | none =>
      have ha : m.any (fun p => decide (p.1 = k)) = false := by
        rw [List.find?_eq_none] at hf
        rw [List.any_eq_false]
        intro p hp; exact hf p hp
      have hn := (findNow_eq K G k es.toList m 0 h2).1 ha
      simp [Instr.lookup, run_underlying hu, MapKept.run_getObj_map h1, hc, MapKept.run_findKey hk hn, hz, Result.andThen]
    | some p =>
      obtain ⟨j, hn⟩ := (findNow_eq K G k es.toList m 0 h2).2 p hf
      simp [Instr.lookup, run_underlying hu, MapKept.run_getObj_map h1, hc, MapKept.run_findKey hk hn, Result.andThen]
  simp [execOp, hx, hy, q]
end
end Go.Lf
