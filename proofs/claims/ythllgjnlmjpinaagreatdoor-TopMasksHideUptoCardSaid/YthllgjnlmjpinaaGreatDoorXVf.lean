/- Contract of internal/strconv.FormatInt at this program. -/
import Derived.Test.YthllgjnlmjpinaaGreatDoorXVb
import Derived.Test.YthllgjnlmjpinaaGreatDoorXVp
namespace Go.Lf
theorem str_nums (s:Str):str' (nums s)=s:=by
  unfold str' nums
  rw [List.map_map]
  conv=>rhs; rw [← List.map_id s]
  apply List.map_congr_left
  intro b _
  simp
end Go.Lf
namespace Go.Proofs.YthllgjnlmjpinaaGreatDoor.E
open Go.RowKit Go.OB Go.Lf Go.Sort Go.Shelf Go.Proofs
theorem xu2:Tryz.prog.underlying 2=some (.int .i64):=Tryz.underlying2
theorem fmt_c1 {w:World}{b u:Nat}(hb:Blk w b (List.replicate 24 (.int .u8 0)) 202)(hu1:1≤u)(hu64:u<18446744073709551616):
    Calls Tryz.prog 144 #[.slice (some ⟨b,1,none⟩) (Lib.nDigits u) 23,.int .u64 (u:Int)] w fun e w'=>e= .returned (.tuple #[])∧ ∃k v' dk,w'=(putRow aFc w b 1 dk).drewN k∧Lib.FmtInv (Lib.nDigits u) u 0 v' dk:=by
  have hn:=Lib.nDigits_le20 u hu64
  have hH:Holds (fun (b:UInt8)=>Value.int .u8 (b.toNat:Int)) w b 1 (Array.replicate (Lib.nDigits u) (0:UInt8)):=fun j hj=>by
    rw [Array.size_replicate] at hj
    refine ⟨?_,hb.frozen _⟩
    rw [getElem!_pos _ j (by rw [Array.size_replicate]; exact hj),Array.getElem_replicate]
    refine hb.cell ?_
    rw [List.getElem?_replicate,if_pos (by omega)]
    rfl
  have q:=Any.internal_strconv_formatBase10 aJu b 1 23 u (Array.replicate (Lib.nDigits u) 0) w hH (by rw [Array.size_replicate]; exact Lib.lt_pow_nDigits u) hu64 (by rw [Array.size_replicate]; omega)
  rw [Array.size_replicate] at q
  exact q
theorem Wr.put1 {w : World} {b : Nat} {cs : List Value} {T : TypeId} (hb : Blk w b cs T) (dk : Array UInt8) (k : Nat) : Wr w ((putRow aFc w b 1 dk).drewN k) b (putCells aFc 1 dk cs.toArray).toList T := by
 have hlt := hb.lt;unfold Blk at hb;refine ⟨?_, ⟨rfl, rfl, rfl, ?_, fun i hi hn => ?_⟩, ?_⟩;unfold Blk;rw [World.heap_drewN];simp [putRow, mapBlock, Array.getElem?_modify, hb, onCells];rw [World.heap_drewN]; simp;rw [World.heap_drewN];have hne : b ≠ i := fun e => hn (by simp [e]);simp [putRow, mapBlock, Array.getElem?_modify, hne];rw [World.heap_drewN]; simp
theorem aNo {u v' : Nat} {dk : Array UInt8} (h : Lib.FmtInv (Lib.nDigits u) u 0 v' dk) (hn : Lib.nDigits u ≤ 23) :
    ((putCells aFc 1 dk (List.replicate 24 (Value.int .u8 0)).toArray).toList.drop 1).take (Lib.nDigits u * 1) = ints .u8 (nums (Lib.decDigits u)) := by
  have hs : dk.size = Lib.nDigits u := h.size
  have hd := Lib.decDigits_length u
  apply List.ext_getElem?
  intro j
  rw [Nat.mul_one]
  by_cases hj : j < Lib.nDigits u
  · rw [List.getElem?_take, if_pos hj, List.getElem?_drop]
    have q := Lib.row_is_numeral h j (by omega)
    have e1 : (ints .u8 (nums (Lib.decDigits u)))[j]? = some (aFc dk[j]!) := by
      rw [← q]
      simp [ints, nums, aFc, hd, hj]
    rw [e1]
    simp only [putCells, Array.getElem?_toList, Array.getElem?_mapIdx]
    have h1 : 1 + j < 24 := by omega
    have h2 : 1 + j < 1 + dk.size := by omega
    simp [h1, h2, hs, hj]
  · rw [List.getElem?_eq_none (by rw [List.length_take]; omega), List.getElem?_eq_none (by simp [ints, nums]; omega)]
theorem Fdww (p0 p1 : Int) (r : Str) (hF : Fdw p0 p1 = some r) (O S : List Nat) (w : World) (H : Hd O w w S [.fz (.at 1 0 ((Fl.arr 20 (Fl.int .u64)).f zO))]) :
    Calls Tryz.prog 117 ([.int .i64 p0, .int .i64 p1] : List Value).toArray w fun e w' => e = .returned (.string (bs r)) ∧ Hd O w w' S [] := by
  unfold Fdw at hF
  split at hF
  rotate_left
  · cases hF
  rename_i c
  obtain ⟨rfl, c1, c2⟩ := c
  have hr := Option.some.inj hF
  subst hr
  obtain ⟨u, rfl⟩ : ∃ u : Nat, p0 = u := ⟨p0.toNat, by omega⟩
  rw [Int.toNat_natCast]
  have hu64 : u < 18446744073709551616 := by omega
  have hn20 := Lib.nDigits_le20 u hu64
  have hlen : (nums (Lib.decDigits u)).length = Lib.nDigits u := by rw [kX, Lib.decDigits_length]
  refine jS 54 Tryz.func117 rfl rfl rfl ?_
  refine zB fun K1 hK1 => ?_
  refine zA ?_
  refine wI rfl rfl (yZ rfl) ?_
  refine (zK (zD (hK1 _ _ ?_)))
  refine zB fun K2 hK2 => ?_
  refine zB fun K3 hK3 => ?_
  refine zA ?_
  refine wI rfl rfl (bG (v := .int _ _) rfl) ?_
  refine wI rfl rfl (xA rfl rfl) ?_
  refine (zK (zD (hK3 _ _ ?_)))
  first | refine aJw rfl (fun c1 => ?_) (fun c1 => ?_) | refine vT rfl (fun c1 => ?_) (fun c1 => ?_)
  · refine zB fun K4 hK4 => ?_
    refine zB fun K5 hK5 => ?_
    refine zA ?_
    refine wI rfl rfl (bG (v := .int _ _) rfl) ?_
    refine wI rfl rfl (kU rfl rfl) ?_
    refine aKj (b := decide ((0 : Int) ≤ (u : Int))) rfl rfl rfl (fun c2 => ?_) (fun c2 => ?_)
    rotate_left
    · exact absurd (Int.natCast_nonneg u) (of_decide_eq_false c2)
    refine wI rfl rfl (bG (v := .int _ _) rfl) ?_
    refine wI rfl rfl (yX rfl rfl) ?_
    refine wI rfl rfl (yB (v := .bool _) rfl rfl) ?_
    refine (zK (zD (hK5 _ _ ?_)))
    first | refine aJw rfl (fun c2 => ?_) (fun c2 => ?_) | refine vT rfl (fun c2 => ?_) (fun c2 => ?_)
    · refine zB fun K6 hK6 => ?_
      refine zA ?_
      refine wI rfl rfl (bG (v := .int _ _) rfl) ?_
      refine yJ rfl rfl (yD xen142 rfl) (aTi (by omega) w) ?_
      rintro _ w1 ⟨rfl, rfl⟩
      refine ⟨_, rfl, ?_⟩
      refine wI rfl rfl (yZ (v := .string _) rfl) ?_
      refine (zK (zD (hK6 _ _ ?_)))
      refine (zN (zJ (zJ (gW (v1 := .string _) rfl rfl ?_))))
      exact ⟨rfl, H.pick [] (by decide)⟩
    · refine (yM (zD (hK4 _ _ ?_)))
      refine zB fun K6 hK6 => ?_
      refine zA ?_
      refine yH rfl rfl (xB aMp H) ?_
      rintro _ w3 ⟨b, rfl, H⟩
      refine (zK (zD (hK6 _ _ ?_)))
      refine zB fun K7 hK7 => ?_
      refine zA ?_
      refine wI rfl rfl (bG (v := .int _ _) rfl) ?_
      refine wI rfl rfl (aS (c := (u : Int)) xu2 xu147 rfl (by rw [IntKind.wrap_u64]; omega)) ?_
      refine wI rfl rfl (yZ (v := .int _ _) rfl) ?_
      refine (zK (zD (hK7 _ _ ?_)))
      refine zB fun K8 hK8 => ?_
      refine zB fun K9 hK9 => ?_
      refine zA ?_
      refine wI rfl rfl (bG (v := .int _ _) rfl) ?_
      refine wI rfl rfl (yX rfl rfl) ?_
      refine (zK (zD (hK9 _ _ ?_)))
      first | refine aJw rfl (fun c3 => ?_) (fun c3 => ?_) | refine vT rfl (fun c3 => ?_) (fun c3 => ?_)
      · exfalso; omega
      refine (yM (zD (hK8 _ _ ?_)))
      refine zB fun K10 hK10 => ?_
      refine zA ?_
      refine wI rfl rfl (bG (v := .int _ _) rfl) ?_
      have H2 := H
      refine yJ rfl rfl (yD xen143 rfl) (Felw (u : Int) _ (aAi (by omega) hu64) _ _ _ (H.enter [] [0] (by decide) rfl)) ?_
      rintro _ w4 ⟨rfl, G⟩
      have H := H2.step (G.only : Only [] _ _)
      refine ⟨_, rfl, ?_⟩
      refine wI rfl rfl (yZ (v := .int _ _) rfl) ?_
      refine (zK (zD (hK10 _ _ ?_)))
      refine zB fun K11 hK11 => ?_
      refine zA ?_
      refine wI rfl rfl (bG (v := .int _ _) rfl) ?_
      refine wI rfl rfl (yQ (c := ((1 + Lib.nDigits u : Nat) : Int)) rfl rfl (by rw [IntKind.wrap_i64]; omega)) ?_
      refine wI rfl rfl (aBn (i := 1) (j := Lib.nDigits u) (m := 1) aUv xsz5 rfl rfl rfl rfl rfl (by omega) (by omega) rfl) ?_
      refine wI rfl rfl (bG (v := .int _ _) rfl) ?_
      refine yJ rfl rfl (yD xen144 rfl) (fmt_c1 (H.item (i := 1) rfl) (by omega) hu64) ?_
      rintro _ w5 ⟨rfl, k, v', dk, rfl, hF⟩
      have H := H.wr (i := 1) rfl (Wr.put1 (H.item (i := 1) rfl) dk k)
      refine ⟨_, rfl, ?_⟩
      refine (zK (zD (hK11 _ _ ?_)))
      refine zB fun K12 hK12 => ?_
      refine zB fun K13 hK13 => ?_
      refine zA ?_
      refine wI rfl rfl (bG (v := .int _ _) rfl) ?_
      refine wI rfl rfl (yX rfl rfl) ?_
      refine (zK (zD (hK13 _ _ ?_)))
      first | refine aJw rfl (fun c4 => ?_) (fun c4 => ?_) | refine vT rfl (fun c4 => ?_) (fun c4 => ?_)
      · exfalso; omega
      refine (yM (zD (hK12 _ _ ?_)))
      refine zB fun K14 hK14 => ?_
      refine zA ?_
      refine wI rfl rfl (bG (v := .int _ _) rfl) ?_
      refine wI rfl rfl (yQ (c := ((1 + Lib.nDigits u : Nat) : Int)) rfl rfl (by rw [IntKind.wrap_i64]; omega)) ?_
      refine wI rfl rfl (aBn (i := 1) (j := Lib.nDigits u) (m := 1) aUv xsz5 rfl rfl rfl rfl rfl (by omega) (by omega) rfl) ?_
      refine wI rfl rfl (aGj (F := fun _ => True) (xl := nums (Lib.decDigits u)) xu50 xu5 xu9 rfl ⟨_, jV.2 rfl, by rw [hlen]; exact Blk.slo (H.item (i := 1) rfl) (aNo hF (by omega)) (by show (List.map _ _).length = _; rw [List.length_map, hlen]; exact (Nat.mul_one _).symm) (by omega) (by rw [maxLen_eq]; omega)⟩) ?_
      refine wI rfl rfl (yZ (v := .string _) rfl) ?_
      refine (zK (zD (hK14 _ _ ?_)))
      rw [str_nums]
      refine (zN (zJ (gW (v1 := .string _) rfl rfl ?_)))
      exact ⟨rfl, H.pick [] (by decide)⟩
  · exact absurd rfl c1
end Go.Proofs.YthllgjnlmjpinaaGreatDoor.E
