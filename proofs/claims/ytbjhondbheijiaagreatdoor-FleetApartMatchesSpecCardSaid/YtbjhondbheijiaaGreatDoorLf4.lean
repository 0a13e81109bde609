/- Lifting: the last rules. -/
import Derived.Test.YtbjhondbheijiaaGreatDoorLf3
namespace Go.Lf
open Go.RowKit Go.OB

section
variable {P : Program} {ρ : Env} {w w0 w1 : World} {d : Option Tmp} {x y z : Operand} {t u ty e : TypeId} {pos : String} {af : Array Edge} {g : Option (Nat × Bool)}
variable {v : Value} {b o i n c s m : Nat} {k k' : IntKind} {cs xs vs : List Value} {T : TypeId} {O S : List Nat} {l : List Th} {α β : Type} {r : Rp α} {xl yl zl : List α} {a : α} {j q : Int} {F : Nat → Prop}

def fieldAt? (P : Program) (t : TypeId) (i : Nat) : Option (Nat × Option Nat) :=
  match P.underlying t with
  | some (.struct fs) => (fs[i]?).map fun f => (f.offset, (P.info? f.type).map (·.size))
  | _ => none
theorem yZ (h : fieldAt? P t i = some (m, some n)) (hn : n ≠ 0) (hx : ev ρ x = .pointer (some ⟨b, o, none⟩)) : Do P ⟨d, .fieldAddr t x i, ty, pos, af, g⟩ ρ w (.pointer (some ⟨b, o + m, none⟩)) w := by
  unfold fieldAt? at h
  split at h
  · rename_i fs hu
    rw [Option.map_eq_some_iff] at h
    obtain ⟨f, hf, he⟩ := h
    have h1 : f.offset = m := congrArg Prod.fst he
    have h2 : (P.info? f.type).map (·.size) = some n := congrArg Prod.snd he
    exact Do_fieldAddr hu hf h2 hn hx (by rw [h1])
  · cases h
def allp (F : Nat → Prop) (w : World) : List Fz → Prop
  | [] => True
  | p :: l => p.p F w ∧ allp F w l
theorem frees_fz (O : List Nat) (l : List Th) (p : Fz) : frees O (l ++ [.fz p]) = frees O l := by
  funext b; unfold frees; rw [bks_app]; simp [bks, Th.blocks]
theorem Hd.fzs : ∀ {l : List Th} (ps : List Fz), Hd O w0 w S l → allp (frees O l) w ps → Hd O w0 w S (l ++ ps.map Th.fz)
  | l, [], H, _ => by simpa using H
  | l, p :: ps, H, h => by
    have h1 := H.fz p h.1
    have h2 := Hd.fzs (l := l ++ [.fz p]) ps h1 (by rw [frees_fz]; exact h.2)
    simpa using h2
theorem ptf_some {pv : Option Addr} {op : Option α} (h : PtF r F w pv op) (e : op = some a) : ∃ b o cs, pv = some ⟨b, o, none⟩ ∧ F b ∧ b < w.heap.size ∧ r.rd F w cs a ∧ Cells w ⟨b, o, none⟩ cs := by subst e; exact h
/-! ### Is a slice nil? Both answers must lead to the same where it is empty. -/
def nilO [DecidableEq β] (l : List α) (k : Bool → Option β) : Option β :=
  match l with
  | [] => if k true = k false then k false else none
  | _ :: _ => k false
theorem nilO_some [DecidableEq β] {l : List α} {k : Bool → Option β} {r : β} (h : nilO l k = some r) {a : Option Addr} (q : a.isNone = true → l = []) : ∃ b, a.isNone = b ∧ k b = some r := by
  refine ⟨_, rfl, ?_⟩
  unfold nilO at h
  cases l with
  | nil =>
    simp only at h
    split at h
    · rename_i e
      cases a.isNone
      · exact h
      · rw [e]; exact h
    · cases h
  | cons x l =>
    cases ha : a.isNone with
    | false => exact h
    | true => cases q ha
theorem slf_nilq (h : SlF r F w v xl) : ∃ a c, v = .slice a xl.length c ∧ (a.isNone = true → xl = []) := by
  obtain ⟨xs, h1, h2, h3⟩ := h
  rcases h2.2 with ⟨rfl, hn⟩ | ⟨a, cap, rfl, _⟩
  · exact ⟨none, 0, by rw [hn], fun _ => List.eq_nil_of_length_eq_zero hn⟩
  · exact ⟨some a, cap, rfl, fun h => by cases h⟩
theorem Do_eqlnils {a : Option Addr} (hu : P.underlying t = some (.slice e)) (hx : ev ρ x = .slice a n c) (hy : ev ρ y = .slice none 0 0) : Do P ⟨d, .binOp .eql t x y u, ty, pos, af, g⟩ ρ w (.bool a.isNone) w := by
  unfold Do
  simp only [execOp, hx, hy, eqGuard]
  have := Lib.run_eql_slice_nil (P := P) w t e a n c 0 0 hu
  simp [this]
theorem Lx_bs0 {bytes : Nat} {zs : List Value} (hu : P.underlying t = some (.slice e)) (he : El P e r.sz bytes zs) (H : Hd O w0 w S l) :
    ∃ v w', Do P ⟨d, .buildSlice t 0 #[], ty, pos, af, g⟩ ρ w v w' ∧ Hd O w0 w' S (l ++ [.own r v e []]) := by
  obtain ⟨v, w', h1, b, rfl, hA⟩ := Ex_bs0 (P := P) (ρ := ρ) (w := w) (d := d) (ty := ty) (pos := pos) (af := af) (g := g) hu he
  refine ⟨_, w', h1, H.add hA.only (fun hs => ⟨[], rfl, ?_⟩) (fun b' hb' => ?_) (ob_nd _)⟩
  · exact ⟨by simp, .inr ⟨b, 0, #[], rfl, Nat.zero_le _, hA.blk, Nat.le_refl _, (by rw [maxLen_eq]; omega), by simp, by simp⟩⟩
  · have : b' = b := by simpa [Th.blocks, ob, sblk] using hb'
    subst this
    exact ⟨Nat.le_of_eq hA.at_.symm, by rw [hA.size, hA.at_]; omega⟩
theorem splice_get {cs vs : List Value} {i k : Nat} (h : i + vs.length ≤ cs.length) : (splice cs i vs)[k]? = if k < i then cs[k]? else if k < i + vs.length then vs[k - i]? else cs[k]? := by
  unfold splice
  have h1 : (cs.take i).length = i := by simp; omega
  by_cases c1 : k < i
  · rw [if_pos c1, List.append_assoc, List.getElem?_append_left (by rw [h1]; exact c1), List.getElem?_take, if_pos c1]
  · rw [if_neg c1]
    by_cases c2 : k < i + vs.length
    · rw [if_pos c2, List.append_assoc, List.getElem?_append_right (by rw [h1]; omega), h1, List.getElem?_append_left (by omega)]
    · rw [if_neg c2, List.getElem?_append_right (by simp [h1]; omega), List.getElem?_drop]
      congr 1
      simp [h1]; omega
theorem fun_only {α : Type} {r : Rp α} {w w' : World} {v : Value} {b n c : Nat} {e : TypeId} {xl : List α} {cs : List Value} {T : TypeId} (hv : v = .slice (some ⟨b, 0, none⟩) n c) (hW : Wr w w' b cs T) : Only (Th.own r v e xl).blocks w w' := by
  subst hv; simpa [Th.blocks, ob, sblk] using hW.only
/-- A part of an element of an own slice is written. -/
theorem Lx_own_store {off cap : Nat} {a' : α} {mm : Nat} {u' : Value} (H : Hd O w0 w S l) (n : Nat) (hi : l[n]? = some (.own r v e xl)) (hv : v = .slice (some ⟨b, 0, none⟩) xl.length cap) (hc : Cells w ⟨b, 0 + j.toNat * r.sz, none⟩ cs) (hx : ev ρ x = .pointer (some ⟨b, 0 + j.toNat * r.sz + off, none⟩))
    (hs : Sz P t mm) (hm : vs.length = mm) (hy : ev ρ y = u') (hyc : u'.cells = vs.toArray) (h1 : ∀ v ∈ vs, v.oneCell' = true) (hset : set' xl j a' = some yl) (hfit : off + mm ≤ r.sz) (hcl : cs.length = r.sz) (hrd : r.rd (frees O l) w (splice cs off vs) a') :
    ∃ w', DoU P ⟨none, .store t x y, ty, pos, af, g⟩ ρ w w' ∧ Hd O w0 w' S (l.set n (.own r v e yl)) := by
  obtain ⟨j0, j1, rfl⟩ := set_some hset
  rw [Nat.zero_add] at hc
  obtain ⟨xs, r1, r2⟩ := H.item hi
  have hxl := rows_len r1
  have hjs : j.toNat * r.sz + r.sz ≤ xs.length := by
    rw [hxl, ← Nat.succ_mul]; exact Nat.mul_le_mul_right _ (by omega)
  rcases r2.2 with ⟨hv0, _⟩ | ⟨g, cap', cur, hv1, hb0, hg, hnc, hcm, hcs, htake⟩
  · rw [hv] at hv0; cases hv0
  · rw [hv] at hv1
    cases hv1
    have hb : Blk w b cur.toList e := by unfold Blk; simpa using hg
    have hcur : xs.length ≤ cur.toList.length := by rw [← htake]; simp; omega
    obtain ⟨w', hd, hW⟩ := Ex_storeAt (P := P) (ρ := ρ) (w := w) (ty := ty) (pos := pos) (af := af) (g := _) hs hm hx (by rw [hy, hyc]) h1 hb (by omega)
    have hget : ∀ k, k < r.sz → cs[k]? = xs[j.toNat * r.sz + k]? := by
      intro k hk
      have hk' : k < cs.length := by omega
      have h2 := hc k cs[k] (List.getElem?_eq_getElem hk')
      rw [Addr.add_none, cell_of_row w b _ cur e (0, 0) hg] at h2
      rw [List.getElem?_eq_getElem hk', ← htake, List.getElem?_take, if_pos (by omega)]
      simpa using h2.symm
    refine ⟨w', hd, H.turn hi (fun_only hv hW) (fun hs => ⟨splice xs (j.toNat * r.sz) (splice cs off vs), rows_mono hs (rows_set r1 (by omega) hrd), ?_⟩) (fun c hcb => ?_) (ob_nd v)⟩
    · have hlen : (splice xs (j.toNat * r.sz) (splice cs off vs)).length = xs.length := splice_length (by rw [splice_length (by omega)]; omega)
      refine ⟨by rw [hlen, hxl]; simp, .inr ⟨b, cap, (splice cur.toList (0 + j.toNat * r.sz + off) vs).toArray, by rw [hv]; simp, Nat.zero_le _, hW.blk, by simpa using hnc, hcm, ?_, ?_⟩⟩
      · have := splice_length (cs := cur.toList) (vs := vs) (i := 0 + j.toNat * r.sz + off) (by omega)
        simp only [List.size_toArray]
        rw [this]; simpa using hcs
      · apply List.ext_getElem?
        intro k
        rw [List.getElem?_take]
        simp only [List.length_set]
        have A := splice_get (cs := xs) (vs := splice cs off vs) (i := j.toNat * r.sz) (k := k) (by rw [splice_length (by omega)]; omega)
        have B := splice_get (cs := cur.toList) (vs := vs) (i := 0 + j.toNat * r.sz + off) (k := k) (by omega)
        rw [splice_length (by omega)] at A
        rw [A, B]
        have hx2 : ∀ k, xs[k]? = if k < xl.length * r.sz then cur.toList[k]? else none := by
          intro k; rw [← htake, List.getElem?_take]
        by_cases c0 : k < xl.length * r.sz
        · rw [if_pos c0]
          by_cases c1 : k < j.toNat * r.sz
          · rw [if_pos (by omega), if_pos c1, hx2, if_pos c0]
          · rw [if_neg c1]
            by_cases c2 : k < j.toNat * r.sz + cs.length
            · rw [if_pos c2, splice_get (by omega)]
              by_cases c3 : k - j.toNat * r.sz < off
              · rw [if_pos (by omega), if_pos c3, hget _ (by omega), hx2, if_pos (by omega)]
                congr 1; omega
              · rw [if_neg (by omega), if_neg c3]
                by_cases c4 : k - j.toNat * r.sz < off + vs.length
                · rw [if_pos (by omega), if_pos c4]; congr 1; omega
                · rw [if_neg (by omega), if_neg c4, hget _ (by omega), hx2, if_pos (by omega)]
                  congr 1; omega
            · rw [if_neg c2, if_neg (by omega), if_neg (by omega), hx2, if_pos c0]
        · rw [if_neg c0, if_neg (by omega), if_neg (by omega), hx2, if_neg c0]
    · refine ⟨.inl hcb, ?_⟩
      have : c = b := by rw [hv] at hcb; simpa [Th.blocks, ob, sblk] using hcb
      subst this
      exact hW.blk.lt
end
end Go.Lf
namespace Go.Lf
open Go.RowKit Go.OB
theorem xW {ρ : Env} {s len : Nat} {zs vs cs : List Value} {parts : List (Nat × Operand)} (hs : 0 < s) (hi : parts.map Prod.fst = List.range len) (hv : parts.map (fun p => ev ρ p.2) = vs) (h1 : allsz s vs) (hc : vs.flatMap (fun v => v.cells.toList) = cs) :
    fillB s len zs (parts.map fun p => (p.1, ev ρ p.2)) = some cs := by
  have hl : vs.length = len := by rw [← hv, List.length_map]; have := congrArg List.length hi; simpa using this
  have e : (parts.map fun p => (p.1, ev ρ p.2)) = (vs.zipIdx 0).map fun x => (x.2, x.1) := by
    apply List.ext_getElem?
    intro i
    by_cases hi' : i < len
    · have hp : i < parts.length := by have := congrArg List.length hi; simp at this; omega
      have h2 : (parts.map Prod.fst)[i]? = (List.range len)[i]? := by rw [hi]
      have h3 : (parts.map fun p => ev ρ p.2)[i]? = vs[i]? := by rw [hv]
      simp only [List.getElem?_map, List.getElem?_eq_getElem hp, Option.map_some] at h2 h3 ⊢
      rw [List.getElem?_range hi'] at h2
      rw [List.getElem?_zipIdx, ← h3]
      simp at h2
      simp [h2]
    · have hp : parts.length ≤ i := by have := congrArg List.length hi; simp at this; omega
      rw [List.getElem?_eq_none (by simpa using hp), List.getElem?_eq_none (by simp; omega)]
  rw [e, ← hc]
  exact fillB_whole hs (allsz_mem h1) hl
end Go.Lf
namespace Go.Lf
open Go.RowKit Go.OB
/-- Is a slice value nil? -/
def nilV : Value → Bool
  | .slice a _ _ => a.isNone
  | _ => false
def Fz.nl (v : Value) (b : Bool) : Fz := ⟨fun _ _ => nilV v = b, fun _ h => h⟩
section
variable {P : Program} {ρ : Env} {w w0 : World} {d : Option Tmp} {x y : Operand} {t u ty e : TypeId} {pos : String} {af : Array Edge} {g : Option (Nat × Bool)} {v : Value} {O S : List Nat} {l : List Th} {α : Type} {r : Rp α} {xl : List α} {a : α} {j : Int}
theorem Do_eqlnl {b : Bool} (hu : P.underlying t = some (.slice e)) (hs : ∃ a n c, v = .slice a n c) (hx : ev ρ x = v) (hy : ev ρ y = .slice none 0 0) (hb : nilV v = b) : Do P ⟨d, .binOp .eql t x y u, ty, pos, af, g⟩ ρ w (.bool b) w := by
  obtain ⟨a, n, c, rfl⟩ := hs
  exact zT (Do_eqlnils hu hx hy) (congrArg Value.bool hb)
theorem own_sl {F : Nat → Prop} (h : ∃ xs, rows r F w xs xl ∧ w.ownsRow 0 e r.sz v xl.length xs) : ∃ a n c, v = .slice a n c := by obtain ⟨a, c, h⟩ := Sr.len (Sr.of_own h); exact ⟨a, _, c, h⟩
theorem Lx_makeN {bytes : Nat} {zv : Value} (hu : P.underlying t = some (.slice e)) (he : El P e r.sz bytes [zv]) (h1c : r.sz = 1) (hz : ∀ F w, r.rd F w [zv] a) (hx : ev ρ x = .int .i64 j) (hy : ev ρ y = .int .i64 j) (hm : make' bytes j a = some xl) (H : Hd O w0 w S l) :
    ∃ v w', Do P ⟨d, .makeSlice t x y, ty, pos, af, g⟩ ρ w v w' ∧ Hd O w0 w' S (l ++ [.own r v e xl]) ∧ nilV v = false := by
  obtain ⟨h0, h1, h2, rfl⟩ := make_some hm
  have hj : (j.toNat : Int) = j := Int.toNat_of_nonneg h0
  obtain ⟨v, w', h3, b, rfl, hA⟩ := Ex_ms (P := P) (ρ := ρ) (w := w) (d := d) (ty := ty) (pos := pos) (af := af) (g := g) (n := j.toNat) (cs := List.replicate j.toNat zv) hu he (by rw [hj]; exact hx) (by rw [hj]; exact hy) (by omega) (by omega) (by rw [h1c]; exact rep_cells)
  refine ⟨_, w', h3, H.add hA.only (fun hs => ⟨List.replicate j.toNat zv, rows_rep1 hz _ _ _, ?_⟩) (fun b' hb' => ?_) (ob_nd _), rfl⟩
  · refine ⟨by simp [h1c], .inr ⟨b, j.toNat, (List.replicate j.toNat zv).toArray, by simp, Nat.zero_le _, hA.blk, by simp, (by rw [maxLen_eq]; omega), by simp [h1c], ?_⟩⟩
    rw [List.take_of_length_le]; simp [h1c]
  · have : b' = b := by simpa [Th.blocks, ob, sblk] using hb'
    subst this
    exact ⟨Nat.le_of_eq hA.at_.symm, by rw [hA.size, hA.at_]; omega⟩
end
end Go.Lf
