/- The law of clashes. -/
import Derived.Test.YtgmikmoapfmedaaGreatDoorFi5
namespace Go.Lf
open Go.OB
theorem aCl (p : gB) (l : List Int) {b : Nat} (hp : p.out.length ≤ b) (h : b + 22 + 22 * l.length ≤ 100000000000000) : Gr (Fas p l) (b + 22 + 22 * l.length) := by
  unfold Fas
  simp only [yA]
  refine (jD p _ hp (by omega)).bind fun q hq => ?_
  unfold Fc3
  refine qY (fun (i : Nat) (s : List Int) => ((i : Int), s)) l (fun i s => s.length ≤ b + 22 + 22 * i) (fun (r : gB) => r.out.length ≤ b + 22 + 22 * l.length) (by omega) ?_ ?_ _ (by simpa using hq)
  · intro kk i s x hx hi hI
    obtain ⟨r, h1, h2⟩ := jD (gB.mk s) x hI (by omega)
    refine ⟨r.out, by omega, ?_⟩
    simp only [yA]
    rw [dU hi, yR, dV hx, zL, h1, zL, bU hi (by omega)]
  · intro kk s hI
    simp only [yA]
    rw [dS, xH]
    exact ⟨_, rfl, hI⟩
theorem aDa:Fcs=some true:=by kernel_rfl
end Go.Lf
