/- Contracts of strings.Builder, strings.Join and internal/strconv.FormatInt at this program. -/
import Derived.Test.YtckmiljbaejijaaGreatDoorXVb
import Derived.Shelf.Strconv.AtoiErr
namespace Go.Lf
open Go.RowKit Go.OB Go.Sort Go.Shelf Go.Proofs
theorem hd_free {O S:List Nat}{w0 w w':World}{l:List Th}{i:Nat}{it:Th}(H:Hd O w0 w S l)(hi:l[i]? =some it)(ho:Only it.blocks w w'):Hd O w0 w' S []:=by
  have h:=H.turn (it':= .fz ⟨fun _ _=>True,fun _ _=>trivial⟩) hi ho (fun _=>trivial) (by simp [Th.blocks]) (by simp [Th.blocks])
  exact h.pick [] (by decide)
section
variable {P:Program} {ρ:Ren}
set_option maxHeartbeats 1000000 in
set_option maxRecDepth 100000 in
theorem aJq (L:Lays.n169 P ρ) (X:Builder.Extra P ρ) (b g cap:Nat) (p:Value) (cur:Array Value) (l:List UInt8) (w:World) (h0:l≠ []) (hbk:w.heap[b]? =some (.cells #[p,.slice (some ⟨g,0,none⟩) l.length cap] (ρ.t 72) (0,0))) (hg:w.heap[g]? =some (.cells cur (ρ.t 5) (0,0))) (hnc:l.length≤cap) (hcm:cap≤maxLen) (hcs:cur.size=cap * 1)
    (hcell: ∀j x,l[j]? =some x→w.cell? ⟨g,0+j,none⟩=some (.int .u8 x.toNat)):
    Calls P (ρ.f 169) #[.pointer (some ⟨b,0,none⟩)] w fun e w'=>e= .returned (.string ⟨l.toArray⟩)∧w'=w.drew.freeze ⟨g,0,none⟩ l.length:=by
  have hl0:l.length≠0:=by simpa using h0
  have c1:w.drew.cell? ⟨b,1,none⟩=some (.slice (some ⟨g,0,none⟩) l.length cap):=by
    have:w.drew.heap[b]? =some (.cells #[p,.slice (some ⟨g,0,none⟩) l.length cap] (ρ.t 72) (0,0)):=hbk
    rw [Lib.cell_of_heap this]; rfl
  have hSD:(Builtin.unsafeSliceData_ #[(ρ.t 37)] (ρ.t 127) #[.slice (some ⟨g,0,none⟩) l.length cap]).run P w.drew= .ok (.pointer (some ⟨g,0,none⟩)) w.drew:=
    Lib.run_unsafeSliceData_row _ _ _ _ _ _ (by omega)
  have hUS:(Builtin.unsafeString_ #[(ρ.t 127),(ρ.t 3)] (ρ.t 9) #[.pointer (some ⟨g,0,none⟩),.int .i64 l.length]).run P w.drew= .ok (.string ⟨l.toArray⟩) (w.drew.freeze ⟨g,0,none⟩ l.length):=by
    refine Lib.run_unsafeString_row w.drew (ρ.t 127) (ρ.t 3) (ρ.t 9) (ρ.t 5) L.t127 X.cellsByte g cur.size (by have hg':w.drew.heap[g]? =some (.cells cur (ρ.t 5) (0,0)):=hg; simp [World.shape?,hg']) l h0 (by omega) (by unfold maxLen at hcm; omega) ?_
    intro j x hx
    rw [Addr.add_none]
    exact hcell j x hx
  have mixed:=L.mixed
  have t72:=L.t72; have a72:=L.a72; have z72:=L.z72; have v72:=L.v72; have u72:=run_underlying L.t72
  have t70:=L.t70; have a70:=L.a70; have z70:=L.z70; have v70:=L.v70; have u70:=run_underlying L.t70
  have t37:=L.t37; have a37:=L.a37; have z37:=L.z37; have v37:=L.v37; have u37:=run_underlying L.t37
  have t127:=L.t127; have a127:=L.a127; have z127:=L.z127; have v127:=L.v127; have u127:=run_underlying L.t127
  have t3:=L.t3; have a3:=L.a3; have z3:=L.z3; have v3:=L.v3; have u3:=run_underlying L.t3
  have t9:=L.t9; have a9:=L.a9; have z9:=L.z9; have v9:=L.v9; have u9:=run_underlying L.t9
  have t5:=X.t5; have a5:=X.a5; have z5:=X.z5; have v5:=X.v5; have u5:=run_underlying X.t5
  go_enter L.f169,Body.n169_ntmps ρ
  go_wp2
  go_region_o
  all_goals (go_wp2; go_ret; exact ⟨rfl,rfl⟩)
set_option maxHeartbeats 2000000 in
set_option maxRecDepth 100000 in
theorem aLe (L:Lays.n169 P ρ) (X:Builder.Extra P ρ) (b:Nat) (p:Value) (w:World) (hbk:w.heap[b]? =some (.cells #[p,.slice none 0 0] (ρ.t 72) (0,0))):
    Calls P (ρ.f 169) #[.pointer (some ⟨b,0,none⟩)] w fun e w'=>e= .returned (.string ⟨#[]⟩)∧fJ w w':=
  Any.Builder_String_nil L X w.heap.size b p w hbk
theorem aGv (L : Lays.n169 P ρ) (X : Builder.Extra P ρ) (b g cap : Nat) (p : Value) (cur : Array Value) (w : World) (hbk : w.heap[b]? = some (.cells #[p, .slice (some ⟨g, 0, none⟩) 0 cap] (ρ.t 72) (0, 0))) (hg : w.heap[g]? = some (.cells cur (ρ.t 5) (0, 0))) :
    Calls P (ρ.f 169) #[.pointer (some ⟨b, 0, none⟩)] w fun e w' => e = .returned (.string ⟨#[]⟩) ∧ fJ w w' := by
  by_cases hc0 : cap = 0
  · subst hc0
    exact (Any.Builder_String_noroom L X w.heap.size b g p cur w (Nat.le_refl _) hbk hg)
  · exact (Any.Builder_String_room L X w.heap.size b g cap p w hc0 hbk)
end
theorem Wr.cell0 {w : World} {b : Nat} {c v : Value} {cs : List Value} {T : TypeId} (h : Blk w b (c :: cs) T) : Wr w (w.setCell ⟨b, 0, none⟩ v) b (v :: cs) T := by
  unfold Blk at h
  refine ⟨?_, ⟨rfl, rfl, rfl, by simp [World.setCell], fun k hk hn => ?_⟩, by simp [World.setCell]⟩
  · unfold Blk
    simp [World.setCell, Array.getElem?_modify, h]
  · have : b ≠ k := fun e => hn (by simp [e])
    simp [World.setCell, Array.getElem?_modify, this]
theorem aMd {w : World} {g n : Nat} : Only [g] w (w.drew.freeze ⟨g, 0, none⟩ n) := by
  have h1 : Only [g] w w.drew := (Only.of_below ((Below.refl w.heap.size w).drew)).mono (by simp)
  refine h1.trans ?_
  unfold World.freeze
  split
  · exact Only.refl _ _
  · refine ⟨rfl, rfl, rfl, by simp, fun k hk hn => ?_⟩
    have : g ≠ k := fun e => hn (by simp [e])
    simp [Array.getElem?_modify, this]
end Go.Lf
namespace Go.Proofs.YtckmiljbaejijaaGreatDoor.E
open Go.RowKit Go.OB Go.Lf Go.Sort
theorem Fgcw (p0 : List Int) (b1 : Nat) (v2 v3 : Value) (r : List Int) (hF : Fgc p0 = some r) (O S : List Nat) (w : World) (H : Hd O w w S [.own (Rp.int .u8) v3 5 p0, .blk b1 [v2, v3] 129, .fz (.oq v2 b1)]) :
    Calls Tryz.prog 129 ([.pointer (some ⟨b1, 0, none⟩)] : List Value).toArray w fun e w' => ∃ u1 u2, e = .returned (.tuple #[]) ∧ Hd O w w' S [.fz (.oq u1 b1), .own (Rp.int .u8) u2 5 r, .blk b1 [u1, u2] 129] := by
  have hr := Option.some.inj hF
  subst hr
  have hb : Blk w b1 [v2, v3] 129 := H.item (i := 1) rfl
  have hq : v2 = .pointer none ∨ v2 = .pointer (some ⟨b1, 0, none⟩) := H.item (i := 2) rfl
  have h0 : w.cell? ⟨b1, 0, none⟩ = some v2 := hb.cell rfl
  rcases hq with rfl | rfl
  · refine (Any.Builder_copyCheck_fresh aHt shX.toX72 b1 w h0 (by have hb := hb; unfold Blk at hb; simp [World.shape?, hb]; rfl) (hb.frozen _)).mono ?_
    rintro e w' ⟨rfl, rfl⟩
    refine ⟨.pointer (some ⟨b1, 0, none⟩), v3, rfl, ?_⟩
    have H := H.wr (i := 1) rfl (Wr.cell0 (v := .pointer (some ⟨b1, 0, none⟩)) hb)
    have H := H.fz (.oq (.pointer (some ⟨b1, 0, none⟩)) b1) (.inr rfl)
    exact H.pick [3, 0, 1] (by decide)
  · refine (Any.Builder_copyCheck_used aHt shX.toX72 b1 w h0).mono ?_
    rintro e w' ⟨rfl, rfl⟩
    exact ⟨_, v3, rfl, H.pick [2, 0, 1] (by decide)⟩
theorem Feow (p0 : List Int) (b1 : Nat) (v2 v3 : Value) (r : Str) (hF : Feo p0 = some r) (O S : List Nat) (w : World) (H : Hd O w w S [.own (Rp.int .u8) v3 5 p0, .blk b1 [v2, v3] 129, .fz (.oq v2 b1)]) :
    Calls Tryz.prog 71 ([.pointer (some ⟨b1, 0, none⟩)] : List Value).toArray w fun e w' => e = .returned (.string (bs r)) ∧ Hd O w w' S [] := by
  unfold Feo at hF
  split at hF
  rotate_left
  · cases hF
  rename_i hn
  have hr := Option.some.inj hF
  rw [hr] at hn
  subst hn
  clear hr hF
  have hb : Blk w b1 [v2, v3] 129 := H.item (i := 1) rfl
  unfold Blk at hb
  obtain ⟨xs, r1, r2⟩ := H.item (i := 0) rfl
  have r1 := pF.1 r1
  subst r1
  have hnl := uM r
  rcases r2.2 with ⟨rfl, h0⟩ | ⟨g, cap, cur, rfl, hbg, hgg, hnc, hcm, hcs, htake⟩
  · have hx : r = [] := List.eq_nil_of_length_eq_zero (by omega)
    subst hx
    refine (aLe aBl shX b1 v2 w hb).mono ?_
    rintro e w' ⟨rfl, hs⟩
    exact ⟨rfl, (H.sees hs).pick [] (by decide)⟩
  · by_cases hp : r = []
    · subst hp
      refine (aGv aBl shX b1 g cap v2 cur w hb hgg).mono ?_
      rintro e w' ⟨rfl, hs⟩
      exact ⟨rfl, (H.sees hs).pick [] (by decide)⟩
    · rw [hnl] at hb
      refine (aJq aBl shX b1 g cap v2 cur r w hp hb hgg (by omega) hcm hcs (fun j x hx => ?_)).mono ?_
      · have hc := r2.cells (g := g) rfl j (.int .u8 (x.toNat : Int)) (by simp [ints, nums, hx])
        rw [Addr.add_none] at hc; exact hc
      · rintro e w' ⟨rfl, rfl⟩
        exact ⟨rfl, hd_free H (i := 0) rfl (aMd.mono (by simp [Th.blocks, ob, bT]))⟩
theorem Ffaw (p0 : List Str) (p1 : Str) (v0 : Value) (r : Str) (hF : Ffa p0 p1 = some r) (O S : List Nat) (w : World) (H : Hd O w w S [.fz (.sl Rp.str v0 p0)]) :
    Calls Tryz.prog 188 ([v0, .string (bs p1)] : List Value).toArray w fun e w' => e = .returned (.string (bs r)) ∧ Hd O w w' S [] := by
  unfold Ffa at hF
  split at hF
  · rename_i c
    obtain ⟨c1, c2⟩ := c
    have hr := Option.some.inj hF
    subst hr
    obtain ⟨xs, h1, h2, h3⟩ := H.item (i := 0) rfl
    have hm : ∀ l : List Str, (l.map bs).map (fun x => x.data.toList) = l := fun l => by
      rw [List.map_map]
      conv => rhs; rw [← List.map_id l]
      rfl
    rcases Nat.eq_zero_or_pos p0.length with hz | hz
    · have : p0 = [] := List.eq_nil_of_length_eq_zero hz
      subst this
      obtain ⟨a, c, rfl⟩ := h2.shape
      refine (Any.strings_Join_none aHb shX a c (bs p1) w).mono ?_
      rintro e w' ⟨rfl, rfl⟩
      exact ⟨rfl, H.pick [] (by decide)⟩
    · obtain ⟨b, o, cap, rfl, hcap, -, hc⟩ := h2.some (by omega)
      have hbF := h3 hz b rfl
      have q := Any.strings_Join aHb shX b o cap (p0.map bs) (bs p1) w (fun j x hx => ?_) hbF.2 (by rw [List.length_map]; exact c1) (by rw [List.length_map]; exact hcap) (by rw [hm]; exact c2)
      · rw [List.length_map, hm] at q
        refine q.mono ?_
        rintro e w' ⟨rfl, hs⟩
        exact ⟨rfl, (H.sees hs).pick [] (by decide)⟩
      · have hrow : ∀ {l : List Str} {cs : List Value}, rows Rp.str (frees O [.fz (.sl Rp.str (.slice (some ⟨b, o, none⟩) p0.length cap) p0)]) w cs l → cs = l.map fun s => .string (bs s) := by
          intro l
          induction l with
          | nil => intro cs h; exact h
          | cons y l ih => rintro cs ⟨c', d, rfl, k1, k2⟩; have k1 : c' = [.string (bs y)] := k1; rw [k1, ih k2]; rfl
        have hxs := hrow h1
        subst hxs
        rw [List.getElem?_map, Option.map_eq_some_iff] at hx
        obtain ⟨y, hy, rfl⟩ := hx
        have := hc j (.string (bs y)) (by rw [List.getElem?_map, hy]; rfl)
        rw [Addr.add_none] at this
        exact this
  · cases hF

theorem Fdyw (p0 : Int) (r : Str) (hF : Fdy p0 = some r) (O S : List Nat) (w : World) (H : Hd O w w S []) :
    Calls Tryz.prog 130 ([.int .i64 p0] : List Value).toArray w fun e w' => e = .returned (.string (bs r)) ∧ Hd O w w' S [] := by
  unfold Fdy at hF
  split at hF
  · rename_i c
    obtain ⟨n, rfl⟩ := Int.eq_ofNat_of_zero_le c.1
    have hr := Option.some.inj hF
    subst hr
    exact (Any.strconv_Itoa_small { aPk with } n (by omega) w).mono fun e w' ⟨h1, h2⟩ => ⟨h1, by subst h2; exact H⟩
  · cases hF
theorem aFd {w w':World}(h:Below w.heap.size w w'):Only [] w w':=Only.of_below h
theorem Ffrw (p0 : Str) (r : Int × Bool) (hF : Ffr p0 = some r) (O S : List Nat) (w : World) (H : Hd O w w S [.fz (.gi 4)]) :
    Calls Tryz.prog 213 ([.string (bs p0)] : List Value).toArray w fun e w' => ∃ u, e = .returned (.tuple #[.int .i64 r.1, u]) ∧ Hd O w w' S [.fz (.ic u r.2)] := by
  obtain ⟨-, -, ev, h3, h4⟩ : frees O [Th.fz (.gi 4)] 4 ∧ 4 < w.heap.size ∧ ∃ v, Cells w ⟨4, 0, none⟩ [v] ∧ (v = .nilIface ∨ ∃ T x, v = .iface T x) := H.item (i := 0) rfl
  have hc : w.cell? ⟨4, 0, none⟩ = some ev := h3.get (i := 0) rfl
  unfold Ffr at hF
  split at hF
  · rename_i c
    have hs : (bs p0).size ≤ 18 := by rw [jI]; exact c
    have hd : (bs p0).data.toList = p0 := by simp [bs]
    split at hF
    · rename_i n hn
      have hr := Option.some.inj hF
      subst hr
      refine (Any.strconv_Atoi { aEw with } (bs p0) n hs (by rw [hd]; exact hn) w).mono ?_
      rintro e w' ⟨rfl, t, hw⟩
      have H := H.step (w' := w') (aFd (by rw [hw]; exact Lib.bytesWorld_below _ _ _))
      have H := H.fz (.ic .nilIface true) rfl
      exact ⟨_, rfl, H.pick [1] (by decide)⟩
    · rename_i hn
      have hr := Option.some.inj hF
      subst hr
      refine (Any.strconv_Atoi_err aEw (bs p0) hs (by rw [hd]; exact hn) ev w hc h4).mono ?_
      rintro e w' ⟨B, rfl, -, -, hb⟩
      have H := H.step (aFd hb)
      have H := H.fz (.ic (.iface (ren.t 168) (.pointer (some ⟨B, 0, none⟩))) false) ⟨_, _, rfl⟩
      exact ⟨_, rfl, H.pick [1] (by decide)⟩
  · cases hF
end Go.Proofs.YtckmiljbaejijaaGreatDoor.E
