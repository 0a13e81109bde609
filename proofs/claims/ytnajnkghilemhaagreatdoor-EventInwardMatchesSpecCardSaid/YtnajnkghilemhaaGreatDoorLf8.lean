/- Regions that draw their order, in which several things are made that may change places. -/
import Derived.Test.YtnajnkghilemhaaGreatDoorLf7
import Derived.Test.YtnajnkghilemhaaGreatDoorMxM2
namespace Go.Lf
open Go.RowKit Go.OB
section
variable {P : Program} {N : Nat} {Q : Exit → Env → World → Prop} {ρ : Env} {w w0 w1 w' : World} {O S : List Nat} {l l2 : List Th} {i n0 : Nat} {A : Nat → Prop}
def frm (O : List Nat) (l : List Th) (w0 : World) : Nat → Prop := fun b => frees O l b ∧ b < w0.heap.size
structure Hm (n0 : Nat) (A : Nat → Prop) (O : List Nat) (w0 w : World) (S : List Nat) (l : List Th) : Prop where
  only : Only S w0 w
  holds : ∀ it ∈ l, it.holds (frm O l w0) w
  own : ∀ it ∈ l, ∀ b ∈ it.blocks, (w0.heap.size ≤ b ∨ b ∈ S) ∧ b < w.heap.size
  nd : (bks l).Nodup
  fo : ∀ b ∈ O, b < w0.heap.size ∧ b ∉ S
  made : ∀ i it, l[i]? = some it → ∀ c ∈ it.blocks, (i < n0 ∧ c < w0.heap.size) ∨ (n0 ≤ i ∧ A c)
theorem Hd.hm (H : Hd O w w S l) : Hm l.length (fun _ => False) O w w S l :=
  ⟨H.only, fun it hm => Th.same (H.holds it hm) (fun _ h hl => ⟨⟨h, hl⟩, rfl⟩) (fun _ _ => rfl), H.own, H.nd, H.fo, fun i it hi c hc => .inl ⟨(List.getElem?_eq_some_iff.1 hi).1, (H.own it (List.mem_of_getElem? hi) c hc).2⟩⟩
theorem Hm.hd (H : Hm n0 A O w0 w S l) : Hd O w0 w S l :=
  ⟨H.only, fun it hm => Th.same (H.holds it hm) (fun _ h _ => ⟨h.1, rfl⟩) (fun _ _ => rfl), H.own, H.nd, H.fo⟩
theorem Hm.item (H : Hm n0 A O w0 w S l) {it : Th} (hi : l[i]? = some it) : it.holds (frm O l w0) w := H.holds it (List.mem_of_getElem? hi)
theorem Hm.step (H : Hm n0 A O w0 w S l) (ho : Only [] w w') : Hm n0 A O w0 w' S l :=
  ⟨H.only.trans (ho.mono (by simp)), fun it hm => Th.same (H.holds it hm) (fun b hb hl => ⟨hb, only_nil ho hl⟩) (fun b hb => only_nil ho (H.own it hm b hb).2),
   fun it hm b hb => ⟨(H.own it hm b hb).1, Nat.lt_of_lt_of_le (H.own it hm b hb).2 ho.size⟩, H.nd, H.fo, H.made⟩
theorem Hm.sees (H : Hm n0 A O w0 w S l) (ho : Sees w w') : Hm n0 A O w0 w' S l := H.step (Only.of_below ho)
theorem frm_fz {p : Fz} : frm O (l ++ [.fz p]) w0 = frm O l w0 := by funext b; unfold frm; rw [frees_fz]
theorem Hm.fz (H : Hm n0 A O w0 w S l) (p : Fz) (hp : p.p (frm O l w0) w) : Hm n0 A O w0 w S (l ++ [.fz p]) := by
  refine ⟨H.only, fun it hm => ?_, fun it hm => ?_, ?_, H.fo, fun i it hi c hc => ?_⟩
  · rw [frm_fz]
    rcases List.mem_append.1 hm with hm | hm
    · exact H.holds it hm
    · obtain rfl := List.mem_singleton.1 hm; exact hp
  · rcases List.mem_append.1 hm with hm | hm
    · exact H.own it hm
    · obtain rfl := List.mem_singleton.1 hm; simp [Th.blocks]
  · rw [bks_app]; simpa [bks, Th.blocks] using H.nd
  · by_cases h : i < l.length
    · rw [List.getElem?_append_left h] at hi; exact H.made i it hi c hc
    · rw [List.getElem?_append_right (by omega)] at hi
      have := List.mem_of_getElem? hi
      obtain rfl := List.mem_singleton.1 this; simp [Th.blocks] at hc
theorem Hm.fzs : ∀ {l : List Th} (ps : List Fz), Hm n0 A O w0 w S l → allp (frm O l w0) w ps → Hm n0 A O w0 w S (l ++ ps.map Th.fz)
  | l, [], H, _ => by simpa using H
  | l, p :: ps, H, h => by
    have h1 := H.fz p h.1
    have h2 := Hm.fzs (l := l ++ [.fz p]) ps h1 (by rw [frm_fz]; exact h.2)
    simpa using h2
theorem Hm.enter (H : Hm n0 A O w0 w S l) (ow fs : List Nat) (hn : (ow ++ fs).Nodup) (hf : fs.all (fzAt l) = true) :
    Hd (O ++ bks (rest ow l)) w w (bks (Go.Lf.pick (ow ++ fs) l)) (Go.Lf.pick (ow ++ fs) l) := H.hd.enter ow fs hn hf
theorem Hm.freeze {α : Type} {r : Rp α} {v : Value} {e : TypeId} {xl : List α} (H : Hm n0 A O w0 w S l) (hi : l[i]? = some (.own r v e xl)) (hlt : Nat.blt i n0 = true := by rfl) : Hm n0 A O w0 w S (l.set i (.fz (.sl r v xl))) := by
  have hin : i < n0 := by simpa using hlt
  have G := H.hd.freeze hi
  have hil := (List.getElem?_eq_some_iff.1 hi).1
  have hsub : ∀ {c}, c ∈ bks (l.set i (.fz (.sl r v xl))) → c ∈ bks l := fun {c} hx => by
    rcases bks_set hx with h | ⟨j, x, hj, hx, hbx⟩
    · simp [Th.blocks] at h
    · exact mem_bks.2 ⟨x, List.mem_of_getElem? hx, hbx⟩
  have hS : Same (frm O l w0) (frm O (l.set i (.fz (.sl r v xl))) w0) w w := fun b hb _ => ⟨⟨⟨hb.1.1, fun hx => hb.1.2 (hsub hx)⟩, hb.2⟩, rfl⟩
  refine ⟨G.only, fun it hm => ?_, G.own, G.nd, H.fo, fun j it hj c hc => ?_⟩
  · rcases List.mem_or_eq_of_mem_set hm with hm' | rfl
    · exact Th.same (H.holds it hm') hS (fun _ _ => rfl)
    · obtain ⟨xs, h1, h2⟩ := H.item hi
      have hb0 : ∀ b, sblk v = some b → b < w0.heap.size := fun b hb => by
        rcases H.made i _ hi b (ob_mem.2 hb) with h | h
        · exact h.2
        · omega
      refine ⟨xs, rows_mono hS h1, owns_slr h2, fun h0 b hb => ⟨⟨⟨?_, ?_⟩, hb0 b hb⟩, (H.own _ (List.mem_of_getElem? hi) b (ob_mem.2 hb)).2⟩⟩
      · exact H.hd.notO (List.mem_of_getElem? hi) (show b ∈ (Th.own r v e xl).blocks from ob_mem.2 hb)
      · have hbm : b ∈ (Th.own r v e xl).blocks := ob_mem.2 hb
        intro hm
        rcases bks_set hm with h | ⟨j, x, hj, hx, hbx⟩
        · simp [Th.blocks] at h
        · exact H.hd.apart hx hi hj b hbx hbm
  · rw [List.getElem?_set] at hj
    by_cases e : i = j
    · subst e
      rw [if_pos rfl, if_pos hil] at hj
      cases hj; simp [Th.blocks] at hc
    · rw [if_neg e] at hj
      exact H.made j it hj c hc
theorem Hm.add {b : Nat} {cs : List Value} {T : TypeId} (H : Hm n0 A O w0 w S l) (hs : Sees w w') (hb : w0.heap.size ≤ b) (hn : ¬ A b) (hB : Blk w' b cs T) {it : Th} (hn0 : n0 ≤ l.length) (hblk : it.blocks = [b]) (hh : it.holds (frm O l w0) w') :
    Hm n0 (fun x => x = b ∨ A x) O w0 w' S (l ++ [it]) := by
  have H := H.sees hs
  have hbl : b ∉ bks l := fun hm => by
    obtain ⟨x, hx, hbx⟩ := mem_bks.1 hm
    obtain ⟨i, hi⟩ := List.getElem?_of_mem hx
    rcases H.made i x hi b hbx with h | h
    · omega
    · exact hn h.2
  have hF : ∀ {c}, frm O l w0 c → frm O (l ++ [it]) w0 c := fun {c} hc => ⟨⟨hc.1.1, by
    rw [bks_app, List.mem_append]
    rintro (h | h)
    · exact hc.1.2 h
    · have : c = b := by simpa [bks, hblk] using h
      have := hc.2
      omega⟩, hc.2⟩
  have hsz : b < w'.heap.size := (Array.getElem?_eq_some_iff.1 hB).1
  refine ⟨H.only, fun x hm => ?_, fun x hm c hc => ?_, ?_, H.fo, fun i x hi c hc => ?_⟩
  · rcases List.mem_append.1 hm with hm | hm
    · exact Th.same (H.holds x hm) (fun c hc _ => ⟨hF hc, rfl⟩) (fun _ _ => rfl)
    · obtain rfl := List.mem_singleton.1 hm
      exact Th.same hh (fun c hc _ => ⟨hF hc, rfl⟩) (fun _ _ => rfl)
  · rcases List.mem_append.1 hm with hm | hm
    · exact H.own x hm c hc
    · obtain rfl := List.mem_singleton.1 hm
      rw [hblk] at hc; obtain rfl := List.mem_singleton.1 hc
      exact ⟨.inl hb, hsz⟩
  · rw [bks_app, List.nodup_append]
    refine ⟨H.nd, by simp [bks, hblk], fun a ha c hc => ?_⟩
    have : c = b := by simpa [bks, hblk] using hc
    subst this
    exact fun e => hbl (e ▸ ha)
  · by_cases h : i < l.length
    · rw [List.getElem?_append_left h] at hi
      rcases H.made i x hi c hc with h | h
      · exact .inl h
      · exact .inr ⟨h.1, .inr h.2⟩
    · rw [List.getElem?_append_right (by omega)] at hi
      obtain rfl := List.mem_singleton.1 (List.mem_of_getElem? hi)
      rw [hblk] at hc; obtain rfl := List.mem_singleton.1 hc
      exact .inr ⟨by omega, .inl rfl⟩
end
section
variable {P : Program} {N : Nat} {ops : Array Oper} {κ : List MxM.Kd} {K : MxM.Mm → Env → World → Prop} {k : Nat} {σ : List Nat} {rest : List Oper} {ρ : Env} {w w0 : World} {v : Value} {d : Nat} {ty t e : TypeId} {pos : String} {af : Array Edge} {g : Option (Nat × Bool)} {x : Operand}
variable {O S : List Nat} {l : List Th} {α : Type} {r : Rp α} {xl : List α} {cs : List Value} {A : Nat → Prop} {n0 : Nat}
end
def Fz.oq (v : Value) (b : Nat) : Fz := ⟨fun _ _ => v = .pointer none ∨ v = .pointer (some ⟨b, 0, none⟩), fun _ h => h⟩
end Go.Lf
namespace Go.OB
open Go.RowKit
end Go.OB
