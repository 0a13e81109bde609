/- Contracts of the library at this program. -/
import Derived.Test.YtgmikmoapfmedaaGreatDoorXVb
import Derived.Shelf.Strconv.AtoiErr
namespace Go.Proofs.YtgmikmoapfmedaaGreatDoor.E
open Go.RowKit Go.OB Go.Lf Go.Sort Go.Shelf Go.Proofs

theorem Fc4w (p0 : Int) (r : Str) (hF : Fc4 p0 = some r) (O S : List Nat) (w : World) (H : Hd O w w S []) :
    Calls Tryz.prog 138 ([.int .i64 p0] : List Value).toArray w fun e w' => e = .returned (.string (bs r)) ∧ Hd O w w' S [] := by
  unfold Fc4 at hF
  split at hF
  · rename_i c
    obtain ⟨n, rfl⟩ := Int.eq_ofNat_of_zero_le c.1
    have hr := Option.some.inj hF
    subst hr
    exact (Any.strconv_Itoa_small { aDj with } n (by omega) w).mono fun e w' ⟨h1, h2⟩ => ⟨h1, by subst h2; exact H⟩
  · cases hF

theorem uV {w w':World}(h:Below w.heap.size w w'):Only [] w w':=Only.of_below h
theorem Fc0w (p0 : Str) (r : Int × Bool) (hF : Fc0 p0 = some r) (O S : List Nat) (w : World) (H : Hd O w w S [.fz (.gi 5)]) :
    Calls Tryz.prog 137 ([.string (bs p0)] : List Value).toArray w fun e w' => ∃ u, e = .returned (.tuple #[.int .i64 r.1, u]) ∧ Hd O w w' S [.fz (.ic u r.2)] := by
  obtain ⟨-, -, ev, h3, h4⟩ : frees O [Th.fz (.gi 5)] 5 ∧ 5 < w.heap.size ∧ ∃ v, Cells w ⟨5, 0, none⟩ [v] ∧ (v = .nilIface ∨ ∃ T x, v = .iface T x) := H.item (i := 0) rfl
  have hc : w.cell? ⟨5, 0, none⟩ = some ev := h3.get (i := 0) rfl
  unfold Fc0 at hF
  split at hF
  · rename_i c
    have hs : (bs p0).size ≤ 18 := by rw [jS]; exact c
    have hd : (bs p0).data.toList = p0 := by simp [bs]
    split at hF
    · rename_i n hn
      have hr := Option.some.inj hF
      subst hr
      refine (Any.strconv_Atoi { uA with } (bs p0) n hs (by rw [hd]; exact hn) w).mono ?_
      rintro e w' ⟨rfl, t, hw⟩
      have H := H.step (w' := w') (uV (by rw [hw]; exact Lib.bytesWorld_below _ _ _))
      have H := H.fz (.ic .nilIface true) rfl
      exact ⟨_, rfl, H.pick [1] (by decide)⟩
    · rename_i hn
      have hr := Option.some.inj hF
      subst hr
      refine (Any.strconv_Atoi_err uA (bs p0) hs (by rw [hd]; exact hn) ev w hc h4).mono ?_
      rintro e w' ⟨B, rfl, -, -, hb⟩
      have H := H.step (uV hb)
      have H := H.fz (.ic (.iface (ren.t 168) (.pointer (some ⟨B, 0, none⟩))) false) ⟨_, _, rfl⟩
      exact ⟨_, rfl, H.pick [1] (by decide)⟩
  · cases hF
end Go.Proofs.YtgmikmoapfmedaaGreatDoor.E
