/- Votes do not look at the order of three names. -/
import Derived.Test.YtgmikmoapfmedaaGreatDoorFv5
namespace Go.Lf
open Go.OB
def votF (s:List Int)(most:Int):Int×Bool:=match s with
  | [p,q]=>if IntKind.i64.wrap (q - p)≤most then (p,true) else (0,false)
  | [_,q,_]=>(q,true)
  | _=>(0,false)
theorem aAp {x y z : fG} (hx : mM x) (hy : mM y) (hz : mM z) {most : Int} (hm : 0 ≤ most ∧ most ≤ 1125899906842624) : ((vot x y z most).1, (vot x y z most).2.1) = votF (srt (kn [x, y, z])) most := by
  suffices q : ∃ v : Int × Bool × Int, Fab [x, y, z] most = some v ∧ (v.1, v.2.1) = votF (srt (kn [x, y, z])) most by
    obtain ⟨v, h1, h2⟩ := q
    have e : vot x y z most = v := by unfold vot; rw [h1]; rfl
    rw [e]; exact h2
  have k1 := aDy [x, y, z] (by simp)
  have hkl := wU [x, y, z]
  have hsl := sF (kn [x, y, z])
  unfold Fab Fbe
  simp only [yA]
  rw [k1, zM, if_pos (by simp at hkl; omega), zM]
  have all3 : (kn [x, y, z]).length = 3 → kn [x, y, z] = [x.N, y.N, z.N] := by
    unfold kn
    cases hx1 : x.Known <;> cases hy1 : y.Known <;> cases hz1 : z.Known <;> simp [hx1, hy1, hz1]
  generalize hs : srt (kn [x, y, z]) = s at *
  match s, hsl with
  | [], _ => exact ⟨(0, false, -1), rfl, rfl⟩
  | [_], _ => exact ⟨(0, false, -1), rfl, rfl⟩
  | [p, q], _ =>
    rw [decide_eq_true (show (([p, q] : List Int).length : Int) = 2 from rfl), yR]
    show ∃ v : Int × Bool × Int, gG (some (decide (IntKind.i64.wrap (q - p) ≤ most))) _ = _ ∧ _
    rw [zM]
    unfold votF
    by_cases c : IntKind.i64.wrap (q - p) ≤ most
    · rw [decide_eq_true c, yR]
      exact ⟨(p, true, -1), rfl, by dsimp only; rw [if_pos c]⟩
    · rw [decide_eq_false c, yY]
      exact ⟨(0, false, -1), rfl, by dsimp only; rw [if_neg c]⟩
  | [p, q, r], hsl =>
    have e3 := all3 hsl.symm
    rw [e3] at hs
    obtain ⟨p', q', r', h1, h2, h3, h4⟩ := srt3 x.N y.N z.N
    rw [hs] at h1
    simp only [List.cons.injEq, and_true] at h1
    obtain ⟨rfl, rfl, rfl⟩ := h1
    unfold mM at hx hy hz
    rw [decide_eq_false (show ¬ (([p, q, r] : List Int).length : Int) = 2 by simp), yY, zM, yY, decide_eq_false (show ¬ (([p, q, r] : List Int).length : Int) < 3 by simp), yY]
    show ∃ v : Int × Bool × Int, dR (fun _ => some (q, true, (-1 : Int))) (fun k642 => gJ (!(decide (most < IntKind.i64.wrap (q - p)) == decide (most < IntKind.i64.wrap (r - q)))) fun x645 => gK x645 (Fao [x, y, z] most q k642 3 0) (k642 ())) = some v ∧ _
    simp only [dM, yA]
    have dst : ∀ n : Int, (n = p ∨ n = q ∨ n = r) → Fac n q = some (max (n - q) (q - n)) := fun n hn => by
      unfold Fac
      simp only [yA]
      rw [Go.OB.wrap_i64 (n := n - q) (by omega) (by omega), Go.OB.wrap_i64 (n := q - n) (by omega) (by omega)]
    have P := aCq (x := x) (y := y) (z := z) (most := most) (q := q) (d := fun n => max (n - q) (q - n)) (k := fun _ => some (q, true, (-1 : Int))) (dst x.N (by omega)) (dst y.N (by omega)) (dst z.N (by omega))
    cases (!(decide (most < IntKind.i64.wrap (q - p)) == decide (most < IntKind.i64.wrap (r - q))))
    · rw [yY]; exact ⟨(q, true, -1), rfl, rfl⟩
    · rw [yR, P]
      split
      · exact ⟨_, rfl, rfl⟩
      · split
        · exact ⟨_, rfl, rfl⟩
        · split
          · exact ⟨_, rfl, rfl⟩
          · exact ⟨_, rfl, rfl⟩
  | _ :: _ :: _ :: _ :: _, hsl => simp at hsl hkl; omega
theorem srt_swap {l m:List Int}(h:l.Perm m):srt l=srt m:=
  List.Perm.eq_of_pairwise (le:=fun a b:Int=>a≤b) (fun a b _ _ h1 h2=>Int.le_antisymm h1 h2) (sH l) (sH m) ((pX l).trans (h.trans (pX m).symm))
theorem kn_rot (x y z:fG):(kn [z,x,y]).Perm (kn [x,y,z]):=by
  have h:([z,x,y]:List fG).Perm [x,y,z]:=(List.perm_append_comm (l₁:=[z]) (l₂:=[x,y]))
  unfold kn
  exact (h.filter _).map _
theorem vot_rot {x y z:fG}(hx:mM x)(hy:mM y)(hz:mM z){most:Int}(hm:0≤most∧most≤1125899906842624):(vot z x y most).1=(vot x y z most).1∧(vot z x y most).2.1=(vot x y z most).2.1:=by
  have h1:=aAp hx hy hz hm
  have h2:=aAp hz hx hy hm
  rw [srt_swap (kn_rot x y z),← h1] at h2
  exact ⟨congrArg (·.1) h2,congrArg (·.2) h2⟩
theorem vtS_rot {l:List gV}(h:kE l=0){x y z:gV}(hx:x ∈ l)(hy:y ∈ l)(hz:z ∈ l){most:Int}(hm:0≤most∧most≤1125899906842624)(t:Int):vtS z x y most t=vtS x y z most t:=by
  obtain ⟨e1,e2⟩:=vot_rot (aT h hx t) (aT h hy t) (aT h hz t) hm
  unfold vtS
  rw [e1,e2]
theorem vtE_rot {l : List gV} {x y z : Str} (h : vtE l x y z = 0) : vtE l z x y = 0 := by
  obtain ⟨cx, cy, cz⟩ := aAd h
  unfold vtE at h ⊢
  rw [if_neg (by simp [cx, cy, cz])] at h
  rw [if_neg (by simp [cx, cy, cz])]
  split at h
  · exact absurd h (by decide)
  · rename_i c
    split at h
    · exact absurd h (by decide)
    · rename_i d
      simp only [not_or, Decidable.not_not, ne_eq] at c d
      rw [if_neg (by simp only [not_or]; exact ⟨fun e => c.2.1 e.symm, fun e => c.2.2 e.symm, c.1⟩), if_neg (by simp only [not_or, Decidable.not_not, ne_eq]; exact ⟨d.2.symm, d.2.symm.trans d.1⟩)]
end Go.Lf
