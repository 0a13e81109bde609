/- Regions that draw their order: what is owned and what is only read. -/
import Derived.Test.YtnajnkghilemhaaGreatDoorLf6
import Derived.Test.YtnajnkghilemhaaGreatDoorOpx
namespace Go.Lf
open Go.RowKit Go.OB
section
variable {P : Program} {N : Nat} {Q : Exit → Env → World → Prop} {ρ : Env} {w w0 w1 w' : World} {O S : List Nat} {l l2 : List Th} {i : Nat}
theorem oS : ∀ w w', Only S w0 w → Sees w w' → Only S w0 w' := fun _ _ h hs => h.step (Only.of_below hs) (by simp)
theorem Hd.rebase (H : Hd O w0 w S l) : Hd O w w (bks l) l :=
  ⟨Only.refl _ w, H.holds, fun it hm b hb => ⟨.inr (mem_bks.2 ⟨it, hm, hb⟩), (H.own it hm b hb).2⟩, H.nd, fun b hb => ⟨Nat.lt_of_lt_of_le (H.fo b hb).1 H.only.size, fun hm => by
    obtain ⟨it, hi, hbi⟩ := mem_bks.1 hm
    exact H.notO hi hbi hb⟩⟩
theorem Hd.rejoin (H : Hd O w0 w S l) (G : Hd O w w' (bks l) l2) : Hd O w0 w' S l2 := by
  have in0 : ∀ b ∈ bks l, w0.heap.size ≤ b ∨ b ∈ S := fun b hb => by
    obtain ⟨it, hi, hbi⟩ := mem_bks.1 hb
    exact (H.own it hi b hbi).1
  refine ⟨H.only.step G.only in0, G.holds, fun it hm b hb => ⟨?_, (G.own it hm b hb).2⟩, G.nd, H.fo⟩
  rcases (G.own it hm b hb).1 with h | h
  · exact .inl (Nat.le_trans H.only.size h)
  · exact in0 b h
theorem Hd.firm (H : Hd O w w (bks l) l) {p : Fz} (hi : l[i]? = some (.fz p)) : ∀ w', Only (bks l) w w' → p.p (frees O l) w' := fun _ ho =>
  p.mono (fun b hb hl => ⟨hb, ho.block b hl hb.2⟩) (H.item hi)
theorem Fz.all {F : Nat → Prop} {p : Fz} (h : p.p F w) : p.p (frees [] []) w := p.mono (fun b _ _ => ⟨by simp [frees, bks], rfl⟩) h
theorem WP_mix {id : Nat} {c : List Oper} (_H : Hd O w w S l) (σ : List Nat) (κ : List Mx.Kd) (hm : P.follows .mixedOrders = true) (hs : Region.noSelect c.toArray = true) (hed : Mx.edgesB .any c.toArray = true) (hp : Mx.pairB .any c.toArray (Mx.kdOf κ) σ = true)
    (hσ : σ.isPerm (List.range c.length) = true) (h : Mx.XL P (fun w' => Only S w w') N c.toArray κ (fun ρ w => Q .normal ρ w) σ (Mx.sel c σ) ρ w) : WP P N (.region id c.toArray true) Q ρ w :=
  Mx.WP_mix σ κ hm hs hed hp hσ (fun _ _ => oS _ _) (Only.refl S w) h
theorem WP_mix0 {id : Nat} {c : List Oper} (_H : Hd O w w S l) (σ : List Nat) (κ : List Mx.Kd) (hm : P.follows .mixedOrders = true) (hs : Region.noSelect c.toArray = true) (hed : Mx.edgesB .any c.toArray = true) (hp : Mx.pairB .any c.toArray (Mx.kdOf κ) σ = true)
    (hσ : σ = List.range c.length) (h : Mx.XL P (fun w' => Only S w w') N c.toArray κ (fun ρ w => Q .normal ρ w) σ c ρ w) : WP P N (.region id c.toArray true) Q ρ w :=
  Mx.WP_mix0 σ κ hm hs hed hp hσ (fun _ _ => oS _ _) (Only.refl S w) h
end
section
variable {P : Program} {ρ : Env} {w w0 w1 : World} {d : Option Tmp} {x y z : Operand} {t u ty e : TypeId} {pos : String} {af : Array Edge} {g : Option (Nat × Bool)}
variable {v : Value} {b o i n c s : Nat} {k k' : IntKind} {cs xs vs : List Value} {T : TypeId} {O S : List Nat} {l : List Th} {α : Type} {r : Rp α} {xl yl zl : List α} {a : α} {j : Int} {F : Nat → Prop}
theorem Ls_of {R : Value → World → Prop} {Y : Value → World → Prop} {op : Oper} (h : ∃ v w', Do P op ρ w v w' ∧ R v w') (k : ∃ v w', Do P op ρ w v w' ∧ Y v w') : ∃ v w', Do P op ρ w v w' ∧ Y v w' ∧ R v w' := by
  obtain ⟨v, w', h1, h2⟩ := h
  obtain ⟨v2, w2, k1, k2⟩ := k
  have : v = v2 ∧ w' = w2 := by
    unfold Do at h1 k1
    rw [h1] at k1
    injection k1 with a b
    injection a with a
    exact ⟨a, b⟩
  obtain ⟨rfl, rfl⟩ := this
  exact ⟨v, w', h1, k2, h2⟩
theorem Ys_bs {len bytes s : Nat} {zs : List Value} {parts : Array (Nat × Operand)} (hu : P.underlying t = some (.slice e)) (he : El P e s bytes zs) (hsmall : len * s ≤ 16777216) (hpos : 0 < len * s)
    (hf : fillB s len zs (parts.toList.map fun p => (p.1, ev ρ p.2)) = some cs) : ∃ v w', Do P ⟨d, .buildSlice t len parts, ty, pos, af, g⟩ ρ w v w' ∧ Sees w w' := by
  obtain ⟨v, w', h1, b, rfl, hA⟩ := Ex_bs (P := P) (ρ := ρ) (w := w) (d := d) (ty := ty) (pos := pos) (af := af) (g := g) hu he hsmall hpos hf
  exact ⟨_, w', h1, hA.only.below⟩
end
end Go.Lf
