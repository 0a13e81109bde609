/- Texts: appended to bytes, and made of bytes. -/
import Derived.Test.YtbjhondbheijiaaGreatDoorLf4
import Derived.Lib.AppendStr
namespace Go.Lf
open Go.RowKit Go.OB
section
variable {P : Program} {ρ : Env} {w w0 w1 : World} {d : Option Tmp} {x y z : Operand} {t u ty e ts : TypeId} {pos : String} {af : Array Edge} {g : Option (Nat × Bool)}
variable {v : Value} {b o i n c : Nat} {cs xs vs : List Value} {T : TypeId} {O S : List Nat} {l : List Th} {xl yl zl : List Int} {F : Nat → Prop}
def nums (s : Str) : List Int := s.map fun b => (b.toNat : Int)
def str' (l : List Int) : Str := l.map fun z => UInt8.ofNat z.toNat
def Z8 (P : Program) (e : TypeId) : Prop := (P.info? e).map (fun i => (i.zero, i.size, i.bytes)) = some (some (.int .u8 0), 1, 1)
theorem Z8.get (h : Z8 P e) : ∃ i, P.info? e = some i ∧ i.zero = some (.int .u8 0) ∧ i.size = 1 ∧ i.bytes = 1 := by
  unfold Z8 at h
  cases hi : P.info? e with
  | none => rw [hi] at h; cases h
  | some i =>
    rw [hi] at h
    have := Option.some.inj h
    simp only [Prod.mk.injEq] at this
    exact ⟨i, rfl, this.1, this.2.1, this.2.2⟩
theorem nums_cells (s : Str) : Lib.strCells (bs s) = ints .u8 (nums s) := by simp [Lib.strCells, bs, ints, nums]
theorem nums_len (s : Str) : (nums s).length = s.length := by simp [nums]
theorem Ex_appstr {s : ByteArray} (hu : P.underlying t = some (.slice e)) (hs : P.underlying ts = some .string) (he : Z8 P e) (hx : ev ρ x = v) (hy : ev ρ y = .string s) (hown : w.ownsRow 0 e 1 v n xs)
    (h63 : n + s.size ≤ maxLen) (hby : n + s.size ≤ 140737488355328) :
    ∃ v' w', Do P ⟨d, .call { callee := .builtin .append, args := #[x, y], argTypes := #[t, ts] }, ty, pos, af, g⟩ ρ w v' w' ∧ Ap w w' v v' e 1 (n + s.size) (xs ++ Lib.strCells s) := by
  obtain ⟨i, i1, i2, i3, i4⟩ := he.get
  have hd : ∀ v' w', (Builtin.append_ #[t, ts] ty #[v, .string s]).run P w = .ok v' w' → Do P ⟨d, .call { callee := .builtin .append, args := #[x, y], argTypes := #[t, ts] }, ty, pos, af, g⟩ ρ w v' w' := by
    intro v' w' h
    unfold Do; simp [execOp, resolve, invoke, builtin, hx, hy, h]
  obtain ⟨v', w', hrun, ho, hg, _⟩ := Lib.run_append_own_string (P := P) w 0 t ts ty e i hu hs i1 i2 i3 i4 v n xs hown s h63 hby (Nat.zero_le _)
  refine ⟨v', w', hd _ _ hrun, ho, ⟨hg.os, hg.tape, hg.output, hg.size, fun k hk hn => hg.block k hk (fun e => hn (by rw [ob_mem, ← ownBlock_eq, e]))⟩, ?_⟩
  intro b' hb'
  rcases hown.2 with ⟨rfl, rfl⟩ | ⟨g, cap', cur, rfl, hbg, hgg, hnc, hcm, hcs, htake⟩
  · obtain ⟨v2, w2, hrun2, ho2, _⟩ := Lib.run_append_own_string (P := P) w w.heap.size t ts ty e i hu hs i1 i2 i3 i4 (.slice none 0 0) 0 xs ⟨hown.1, .inl ⟨rfl, rfl⟩⟩ s h63 hby (Nat.le_refl _)
    rw [hrun] at hrun2
    cases hrun2
    exact .inr (owns_ge ho2 b' (ob_mem.2 hb')).1
  · by_cases hroom : n + s.size ≤ cap'
    · have hr2 := Lib.run_append_room_string (P := P) w t ts ty e i hu hs i1 i3 g n cap' cur hgg s hroom (by omega)
      rw [hrun] at hr2
      cases hr2
      exact .inl hb'
    · have holds : ∀ j u, xs[j]? = some u → w.cell? ((⟨g, 0, none⟩ : Addr).add j) = some u := hown.cells (g := g) rfl
      have hr2 := Lib.run_append_grow_string (P := P) w t ts ty e i (.int .u8 0) hu hs i1 i2 ⟨g, 0, none⟩ n cap' xs (by rw [i3]; exact hown.1) holds s (by omega) (by unfold maxLen at h63; omega) (by rw [i4]; exact growslice_fits (by omega) (by omega))
      rw [hrun] at hr2
      cases hr2
      refine .inr ?_
      have : b' = w.heap.size := by simpa [sblk, eq_comm] using hb'
      omega
theorem Lx_appstr {s : Str} (H : Hd O w0 w S l) (hi : l[i]? = some (.own (Rp.int .u8) v e xl)) (hu : P.underlying t = some (.slice e)) (hs : P.underlying ts = some .string) (he : Z8 P e) (hx : ev ρ x = v) (hy : ev ρ y = .string (bs s))
    (ha : app' 1 xl (nums s) = some zl) :
    ∃ v' w', Do P ⟨d, .call { callee := .builtin .append, args := #[x, y], argTypes := #[t, ts] }, ty, pos, af, g⟩ ρ w v' w' ∧ Hd O w0 w' S (l.set i (.own (Rp.int .u8) v' e zl)) := by
  obtain ⟨h1, h2, rfl⟩ := app_some ha
  obtain ⟨xs, r1, r2⟩ := H.item hi
  rw [nums_len] at h1 h2
  obtain ⟨v', w', hd, hA⟩ := Ex_appstr (P := P) (ρ := ρ) (w := w) (d := d) (ty := ty) (pos := pos) (af := af) (g := g) hu hs he hx hy r2 (by rw [bs_size]; exact h1) (by rw [bs_size]; omega)
  refine ⟨v', w', hd, H.turn hi hA.only (fun hs => ?_) (fun b hb => ⟨(hA.blk b (ob_mem.1 hb)).imp ob_mem.2 id, (owns_ge hA.own b hb).2⟩) (ob_nd v')⟩
  refine ⟨xs ++ ints .u8 (nums s), rows_mono hs (rows_app r1 (rows_ints.2 rfl)), ?_⟩
  have q := hA.own
  rw [nums_cells] at q
  rw [List.length_append, nums_len, ← bs_size (s := s)]
  exact q
/-- The text of some bytes. -/
theorem Do_bytestr (hs : P.underlying t = some (.slice e)) (he : P.underlying e = some (.int .u8)) (hd : P.underlying u = some .string) (hx : ev ρ x = v) (hr : Sr (Rp.int .u8) F w v xl) :
    Do P ⟨d, .convert t u x, ty, pos, af, g⟩ ρ w (.string (bs (str' xl))) w := by
  obtain ⟨xs, r1, hl, hr⟩ := hr
  have r1 := rows_ints.1 r1
  subst r1
  have e0 : strOfNums xl = bs (str' xl) := by simp [strOfNums, bs, str']
  have : (convert t u v).run P w = .ok (.string (bs (str' xl))) w := by
    rw [← e0]
    rcases hr with ⟨rfl, h0⟩ | ⟨⟨b, o, sp⟩, cap, rfl, h1, h2, h3, hc⟩
    · have : xl = [] := List.eq_nil_of_length_eq_zero h0
      subst this
      exact run_convert_bytes_nil w t e hs he 0 0 u hd
    · rcases Nat.eq_zero_or_pos xl.length with h0 | h0
      · have : xl = [] := List.eq_nil_of_length_eq_zero h0
        subst this
        exact run_bytes_zero w t e hs he (some ⟨b, o, sp⟩) cap u hd
      have h3 : sp = none := h3 h0
      subst h3
      exact run_convert_bytes_arg w t e hs he b o xl.length cap xl rfl (fun i hi => by
        have := hc.get (i := i) (v := .int .u8 (xl.getD i 0)) (by simp [ints, List.getD, hi])
        exact this) u hd
  unfold Do
  simp [execOp, hx, this]
end
end Go.Lf
