/- AppendUint at base 10. -/
import Derived.Test.YthllgjnlmjpinaaGreatDoorHW
import Derived.Test.YthllgjnlmjpinaaGreatDoorPl
import Derived.Lib.AppendIntMem
import Derived.Lib.ItoaMem
import Derived.Lib.ItoaLen
namespace Go.Lf
open Go.RowKit Go.OB Go.Sort
theorem uQ {u : Nat} (h1 : 1 ≤ u) (h2 : u < 18446744073709551616) : Fds (u : Int) = some ((Lib.nDigits u : Nat) : Int) := by
  have q := Lib.numDigits_eq u h1 h2
  have hb : Lib.bitLen u ≤ 64 := Lib.bitLen_le u 64 (Nat.le_refl _) (by omega)
  unfold Fds Fdj
  rw [if_pos (by omega), zL, Int.toNat_natCast]
  generalize Lib.bitLen u = b at *
  have e : Fc2 (b : Int) = some ((Lib.l10 b : Nat) : Int) := by
    unfold Fc2 vN
    simp only [zV]
    rw [wrap_i64 (by omega) (by omega), if_pos (by decide), zL]
    congr 1
  rw [e, zL]
  have hl := q.2
  have hp : at' zS.l ((Lib.l10 b : Nat) : Int) = some ((10 ^ Lib.l10 b : Nat) : Int) := by
    generalize Lib.l10 b = k at hl
    have := (by decide +kernel : ∀ k : Fin 20, at' zS.l ((k.1 : Nat) : Int) = some ((10 ^ k.1 : Nat) : Int)) ⟨k, by omega⟩
    exact this
  rw [hp, zL]
  simp only [zV]
  unfold Fd4
  by_cases c : 10 ^ Lib.l10 b ≤ u
  · rw [decide_eq_true (show ((10 ^ Lib.l10 b : Nat) : Int) ≤ (u : Int) from Int.ofNat_le.2 c), yN, zL, wrap_i64 (by omega) (by omega)]
    rw [if_pos c] at q
    congr 1; omega
  · rw [decide_eq_false (fun h => c (Int.ofNat_le.1 h)), yM, zL, wrap_i64 (by omega) (by omega)]
    rw [if_neg c] at q
    congr 1; omega
theorem aAk {P:Program}{w:World}{ρ:Env}{t e ty:TypeId}{x hi:Operand}{b n h:Nat}{d:Option Nat}{pos:String}{af:Array Edge}{g:Option (Nat×Bool)}(hu:P.underlying t=some (.array n e))(hs:Sz P e 1)(hx:ev ρ x= .pointer (some ⟨b,0,none⟩))(hh:ev ρ hi= .int .i64 (h:Int))(hn:h≤n)(h0:0<n):
    Do P ⟨d,.slice t x none (some hi) none,ty,pos,af,g⟩ ρ w (.slice (some ⟨b,0,none⟩) h n) w:=by
  have he:P.elem t=e:=by simp [Program.elem,hu]
  have ha:P.arrayLen t=n:=by simp [Program.arrayLen,hu]
  have hu':P.underlying t=some (.array (P.arrayLen t) (P.elem t)):=by rw [he,ha]; exact hu
  unfold Do
  simp [execOp,hx,hh,run_sliceAt_array_h w t ⟨b,0,none⟩ hu' .i64 (h:Int) (by omega) (by rw [ha]; omega),he,ha,cO hs,slicedAt,Addr.add_none,h0]
def aCl (b:UInt8):Value:= .int .u8 (b.toNat:Int)
theorem Wr.put {w : World} {b : Nat} {cs : List Value} {T : TypeId} (hb : Blk w b cs T) (dk : Array UInt8) (k : Nat) : Wr w ((putRow aCl w b 0 dk).drewN k) b (putCells aCl 0 dk cs.toArray).toList T := by
  have hlt := hb.lt
  unfold Blk at hb
  refine ⟨?_, ⟨rfl, rfl, rfl, ?_, fun i hi hn => ?_⟩, ?_⟩
  · unfold Blk
    rw [World.heap_drewN]
    simp [putRow, mapBlock, Array.getElem?_modify, hb, onCells]
  · rw [World.heap_drewN]; simp
  · rw [World.heap_drewN]
    have hne : b ≠ i := fun e => hn (by simp [e])
    simp [putRow, mapBlock, Array.getElem?_modify, hne]
  · rw [World.heap_drewN]; simp
theorem aNo {u v' : Nat} {dk : Array UInt8} (h : Lib.FmtInv (Lib.nDigits u) u 0 v' dk) (hn : Lib.nDigits u ≤ 24) :
    ((putCells aCl 0 dk (List.replicate 24 (Value.int .u8 0)).toArray).toList.drop 0).take (Lib.nDigits u * 1) = ints .u8 (nums (Lib.decDigits u)) := by
  have hs : dk.size = Lib.nDigits u := h.size
  have hd := Lib.decDigits_length u
  apply List.ext_getElem?
  intro j
  rw [List.drop_zero, Nat.mul_one]
  by_cases hj : j < Lib.nDigits u
  · rw [List.getElem?_take, if_pos hj]
    have q := Lib.row_is_numeral h j (by omega)
    have e1 : (ints .u8 (nums (Lib.decDigits u)))[j]? = some (aCl dk[j]!) := by
      rw [← q]
      simp [ints, nums, aCl, hd, hj]
    rw [e1]
    simp only [putCells, Array.getElem?_toList, Array.getElem?_mapIdx]
    have : j < 24 := by omega
    simp [this, hs, hj]
  · rw [List.getElem?_eq_none (by rw [List.length_take]; omega), List.getElem?_eq_none (by simp [ints, nums]; omega)]
end Go.Lf
namespace Go.Proofs.YthllgjnlmjpinaaGreatDoor.E
open Go.RowKit Go.OB Go.Lf Go.Sort
theorem xu3:Tryz.prog.underlying 3=some (.int .i64):=Tryz.underlying3
theorem xu5:Tryz.prog.underlying 5=some (.int .u8):=Tryz.underlying5
theorem xu9:Tryz.prog.underlying 9=some .string:=Tryz.underlying9
theorem xu50:Tryz.prog.underlying 50=some (.slice 5):=Tryz.underlying50
theorem xu147:Tryz.prog.underlying 147=some (.int .u64):=Tryz.underlying147
theorem aPr:Tryz.prog.underlying 202=some (.array 24 5):=Tryz.underlying202
theorem xsz5:Sz Tryz.prog 5 1:=by unfold Sz; kernel_rfl
theorem xel5:El Tryz.prog 5 1 1 ([.int .u8 0]):=⟨by kernel_rfl,by kernel_rfl,by kernel_rfl,by decide,by decide⟩
theorem xz5:Z8 Tryz.prog 5:=by unfold Z8; kernel_rfl
theorem aKr:Go.OB.Zero Tryz.prog 202 (List.replicate 24 (.int .u8 0)):=by unfold Go.OB.Zero; kernel_rfl
theorem xen142:Go.OB.Enters Tryz.prog 142:=⟨_,Tryz.func142,rfl,by kernel_rfl⟩
theorem xen143:Go.OB.Enters Tryz.prog 143:=⟨_,Tryz.func143,rfl,by kernel_rfl⟩
theorem xen144:Go.OB.Enters Tryz.prog 144:=⟨_,Tryz.func144,rfl,by kernel_rfl⟩
theorem aRh {u:Nat}(hu:u<100)(w:World):Calls Tryz.prog 142 #[.int .i64 (u:Int)] w fun e w'=>e= .returned (.string (bs (Lib.decDigits u)))∧w'=w:=Any.internal_strconv_small shLays283 u hu w
theorem fmt_c {w:World}{b u:Nat}(hb:Blk w b (List.replicate 24 (.int .u8 0)) 202)(hu1:1≤u)(hu64:u<18446744073709551616):
    Calls Tryz.prog 144 #[.slice (some ⟨b,0,none⟩) (Lib.nDigits u) 24,.int .u64 (u:Int)] w fun e w'=>e= .returned (.tuple #[])∧ ∃k v' dk,w'=(putRow aCl w b 0 dk).drewN k∧Lib.FmtInv (Lib.nDigits u) u 0 v' dk:=by
  have hn:=Lib.nDigits_le20 u hu64
  have hH:Holds (fun (b:UInt8)=>Value.int .u8 (b.toNat:Int)) w b 0 (Array.replicate (Lib.nDigits u) (0:UInt8)):=fun j hj=>by
    rw [Array.size_replicate] at hj
    refine ⟨?_,hb.frozen _⟩
    rw [getElem!_pos _ j (by rw [Array.size_replicate]; exact hj),Array.getElem_replicate]
    refine hb.cell ?_
    rw [Nat.zero_add,List.getElem?_replicate,if_pos (by omega)]
    rfl
  have q:=Any.internal_strconv_formatBase10 aHa b 0 24 u (Array.replicate (Lib.nDigits u) 0) w hH (by rw [Array.size_replicate]; exact Lib.lt_pow_nDigits u) hu64 (by rw [Array.size_replicate]; omega)
  rw [Array.size_replicate] at q
  exact q
theorem Fc5w (p0 : List Int) (p1 p2 : Int) (v0 : Value) (r : List Int) (hF : Fc5 p0 p1 p2 = some r) (O S : List Nat) (w : World) (H : Hd O w w S [.own (Rp.int .u8) v0 5 p0, .fz (.at 1 0 ((Fl.arr 20 (Fl.int .u64)).f zS))]) :
    Calls Tryz.prog 126 ([v0, .int .u64 p1, .int .i64 p2] : List Value).toArray w fun e w' => ∃ u, e = .returned u ∧ Hd O w w' S [.own (Rp.int .u8) u 5 r] := by
  unfold Fc5 at hF
  split at hF
  · rename_i c
    obtain ⟨rfl, c1, c2, c3⟩ := c
    have hr := Option.some.inj hF
    subst hr
    obtain ⟨u, rfl⟩ : ∃ u : Nat, p1 = u := ⟨p1.toNat, by omega⟩
    rw [Int.toNat_natCast]
    have hu64 : u < 18446744073709551616 := by omega
    have hn20 := Lib.nDigits_le20 u hu64
    have hlen : (nums (Lib.decDigits u)).length = Lib.nDigits u := by rw [aW, Lib.decDigits_length]
    have ha : app' 1 p0 (nums (Lib.decDigits u)) = some (p0 ++ nums (Lib.decDigits u)) := by
      unfold app'
      rw [if_pos ⟨by rw [maxLen_eq, hlen]; omega, by rw [hlen]; omega⟩]
    refine kY 36 Tryz.func126 rfl rfl rfl ?_
    refine zB fun K1 hK1 => ?_
    refine zA ?_
    refine wL rfl rfl (xB rfl) ?_
    refine (zT (zF (hK1 _ _ ?_)))
    refine zB fun K2 hK2 => ?_
    refine zB fun K3 hK3 => ?_
    refine zA ?_
    refine wL rfl rfl (dM (v := .int _ _) rfl) ?_
    refine wL rfl rfl (yY rfl rfl) ?_
    refine (zT (zF (hK3 _ _ ?_)))
    first | refine aHl rfl (fun c1 => ?_) (fun c1 => ?_) | refine zW rfl (fun c1 => ?_) (fun c1 => ?_)
    · refine zB fun K4 hK4 => ?_
      refine zB fun K5 hK5 => ?_
      refine zA ?_
      refine wL rfl rfl (dM (v := .int _ _) rfl) ?_
      refine wL rfl rfl (xH rfl rfl) ?_
      refine (zT (zF (hK5 _ _ ?_)))
      first | refine aHl rfl (fun c2 => ?_) (fun c2 => ?_) | refine zW rfl (fun c2 => ?_) (fun c2 => ?_)
      · refine zB fun K6 hK6 => ?_
        refine zA ?_
        refine wL rfl rfl (dM (v := v0) rfl) ?_
        refine wL rfl rfl (dM (v := .int _ _) rfl) ?_
        refine wL rfl rfl (mX xu147 xu3 rfl (wrap_i64 (by omega) (by omega))) ?_
        refine yB rfl rfl (zY xen142 rfl) (aRh (by omega) w) ?_
        rintro _ w1 ⟨rfl, rfl⟩
        refine ⟨_, rfl, ?_⟩
        refine yP rfl rfl (uH H (i := 0) rfl xu50 xu9 xz5 rfl rfl ha) ?_
        rintro va w2 H
        refine wL rfl rfl (xB (v := va) rfl) ?_
        refine (zT (zF (hK6 _ _ ?_)))
        refine (zX (zQ (zQ (gV (v1 := va) rfl rfl ?_))))
        exact ⟨_, rfl, H.pick [0] (by decide)⟩
      · refine (zZ (zF (hK4 _ _ ?_)))
        refine zB fun K6 hK6 => ?_
        refine zA ?_
        refine yP rfl rfl (xI aKr H) ?_
        rintro _ w3 ⟨b, rfl, H⟩
        refine (zT (zF (hK6 _ _ ?_)))
        refine zB fun K7 hK7 => ?_
        refine zA ?_
        refine wL rfl rfl (dM (v := .int _ _) rfl) ?_
        have H2 := H
        refine yB rfl rfl (zY xen143 rfl) (Fdsw (u : Int) _ (uQ (by omega) hu64) _ _ _ (H.enter [] [1] (by decide) rfl)) ?_
        rintro _ w4 ⟨rfl, G⟩
        have H := H2.step (G.only : Only [] _ _)
        refine ⟨_, rfl, ?_⟩
        refine wL rfl rfl (xB (v := .int _ _) rfl) ?_
        refine (zT (zF (hK7 _ _ ?_)))
        refine zB fun K8 hK8 => ?_
        refine zA ?_
        refine wL rfl rfl (dM (v := .int _ _) rfl) ?_
        refine wL rfl rfl (aAk aPr xsz5 rfl rfl (show Lib.nDigits u ≤ 24 by omega) (by decide)) ?_
        refine wL rfl rfl (dM (v := .int _ _) rfl) ?_
        refine yB rfl rfl (zY xen144 rfl) (fmt_c (H.item (i := 2) rfl) (by omega) hu64) ?_
        rintro _ w5 ⟨rfl, k, v', dk, rfl, hF⟩
        have H := H.wr (i := 2) rfl (Wr.put (H.item (i := 2) rfl) dk k)
        refine ⟨_, rfl, ?_⟩
        refine (zT (zF (hK8 _ _ ?_)))
        refine zB fun K9 hK9 => ?_
        refine zA ?_
        refine wL rfl rfl (dM (v := v0) rfl) ?_
        refine wL rfl rfl (dM (v := .int _ _) rfl) ?_
        refine wL rfl rfl (aAk aPr xsz5 rfl rfl (show Lib.nDigits u ≤ 24 by omega) (by decide)) ?_
        refine yP rfl rfl (kC H (i := 0) rfl xu50 xel5 rfl rfl ⟨_, nJ.2 rfl, by rw [hlen]; exact Blk.slo (H.item (i := 2) rfl) (aNo hF (by omega)) (by show (List.map _ _).length = _; rw [List.length_map, hlen]; exact (Nat.mul_one _).symm) (by omega) (by rw [maxLen_eq]; omega)⟩ ha) ?_
        rintro va w6 H
        refine wL rfl rfl (xB (v := va) rfl) ?_
        refine (zT (zF (hK9 _ _ ?_)))
        refine (zX (zQ (gV (v1 := va) rfl rfl ?_)))
        exact ⟨_, rfl, H.pick [0] (by decide)⟩
    · exact absurd rfl c1
  · cases hF
end Go.Proofs.YthllgjnlmjpinaaGreatDoor.E
