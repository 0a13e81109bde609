/- AppendUint at base 10. -/
import Derived.Test.YthllgjnlmjpinaaGreatDoorHW
import Derived.Test.YthllgjnlmjpinaaGreatDoorPLb
import Derived.Lib.AppendIntMem
import Derived.Lib.ItoaMem
import Derived.Lib.ItoaLen
namespace Go.Lf
open Go.RowKit Go.OB Go.Sort
theorem aAi {u : Nat} (h1 : 1 ≤ u) (h2 : u < 18446744073709551616) : Fel (u : Int) = some ((Lib.nDigits u : Nat) : Int) := by
  have q := Lib.numDigits_eq u h1 h2
  have hb : Lib.bitLen u ≤ 64 := Lib.bitLen_le u 64 (Nat.le_refl _) (by omega)
  unfold Fel Ffl
  rw [if_pos (by omega), zI, Int.toNat_natCast]
  generalize Lib.bitLen u = b at *
  have e : Fcn (b : Int) = some ((Lib.l10 b : Nat) : Int) := by
    unfold Fcn rY
    simp only [zM]
    rw [wrap_i64 (by omega) (by omega), if_pos (by decide), zI]
    congr 1
  rw [e, zI]
  have hl := q.2
  have hp : at' zO.l ((Lib.l10 b : Nat) : Int) = some ((10 ^ Lib.l10 b : Nat) : Int) := by
    generalize Lib.l10 b = k at hl
    have := (by decide +kernel : ∀ k : Fin 20, at' zO.l ((k.1 : Nat) : Int) = some ((10 ^ k.1 : Nat) : Int)) ⟨k, by omega⟩
    exact this
  rw [hp, zI]
  simp only [zM]
  unfold Fej
  by_cases c : 10 ^ Lib.l10 b ≤ u
  · rw [decide_eq_true (show ((10 ^ Lib.l10 b : Nat) : Int) ≤ (u : Int) from Int.ofNat_le.2 c), yF, zI, wrap_i64 (by omega) (by omega)]
    rw [if_pos c] at q
    congr 1; omega
  · rw [decide_eq_false (fun h => c (Int.ofNat_le.1 h)), yE, zI, wrap_i64 (by omega) (by omega)]
    rw [if_neg c] at q
    congr 1; omega
theorem aBv {P:Program}{w:World}{ρ:Env}{t e ty:TypeId}{x hi:Operand}{b n h:Nat}{d:Option Nat}{pos:String}{af:Array Edge}{g:Option (Nat×Bool)}(hu:P.underlying t=some (.array n e))(hs:Sz P e 1)(hx:ev ρ x= .pointer (some ⟨b,0,none⟩))(hh:ev ρ hi= .int .i64 (h:Int))(hn:h≤n)(h0:0<n):
    Do P ⟨d,.slice t x none (some hi) none,ty,pos,af,g⟩ ρ w (.slice (some ⟨b,0,none⟩) h n) w:=by
 have he:P.elem t=e:=by simp [Program.elem,hu]
 have ha:P.arrayLen t=n:=by simp [Program.arrayLen,hu]
 have hu':P.underlying t=some (.array (P.arrayLen t) (P.elem t)):=by rw [he,ha]; exact hu
 unfold Do;simp [execOp,hx,hh,run_sliceAt_array_h w t ⟨b,0,none⟩ hu' .i64 (h:Int) (by omega) (by rw [ha]; omega),he,ha,bZ hs,slicedAt,Addr.add_none,h0]
def aFc (b:UInt8):Value:= .int .u8 (b.toNat:Int)
theorem Wr.put {w : World} {b : Nat} {cs : List Value} {T : TypeId} (hb : Blk w b cs T) (dk : Array UInt8) (k : Nat) : Wr w ((putRow aFc w b 0 dk).drewN k) b (putCells aFc 0 dk cs.toArray).toList T := by
 have hlt := hb.lt;unfold Blk at hb;refine ⟨?_, ⟨rfl, rfl, rfl, ?_, fun i hi hn => ?_⟩, ?_⟩;unfold Blk;rw [World.heap_drewN];simp [putRow, mapBlock, Array.getElem?_modify, hb, onCells];rw [World.heap_drewN]; simp;rw [World.heap_drewN];have hne : b ≠ i := fun e => hn (by simp [e]);simp [putRow, mapBlock, Array.getElem?_modify, hne];rw [World.heap_drewN]; simp
theorem aQf {u v' : Nat} {dk : Array UInt8} (h : Lib.FmtInv (Lib.nDigits u) u 0 v' dk) (hn : Lib.nDigits u ≤ 24) :
    ((putCells aFc 0 dk (List.replicate 24 (Value.int .u8 0)).toArray).toList.drop 0).take (Lib.nDigits u * 1) = ints .u8 (nums (Lib.decDigits u)) := by
  have hs : dk.size = Lib.nDigits u := h.size
  have hd := Lib.decDigits_length u
  apply List.ext_getElem?
  intro j
  rw [List.drop_zero, Nat.mul_one]
  by_cases hj : j < Lib.nDigits u
  · rw [List.getElem?_take, if_pos hj]
    have q := Lib.row_is_numeral h j (by omega)
    have e1 : (ints .u8 (nums (Lib.decDigits u)))[j]? = some (aFc dk[j]!) := by
      rw [← q]
      simp [ints, nums, aFc, hd, hj]
    rw [e1]
    simp only [putCells, Array.getElem?_toList, Array.getElem?_mapIdx]
    have : j < 24 := by omega
    simp [this, hs, hj]
  · rw [List.getElem?_eq_none (by rw [List.length_take]; omega), List.getElem?_eq_none (by simp [ints, nums]; omega)]
end Go.Lf
namespace Go.Proofs.YthllgjnlmjpinaaGreatDoor.E
open Go.RowKit Go.OB Go.Lf Go.Sort
theorem xu3:Tryz.prog.underlying 3=some (.int .i64):=Tryz.underlying3
theorem xu5:Tryz.prog.underlying 5=some (.int .u8):=Tryz.underlying5
theorem xu9:Tryz.prog.underlying 9=some .string:=Tryz.underlying9
theorem xu50:Tryz.prog.underlying 50=some (.slice 5):=Tryz.underlying50
theorem xu147:Tryz.prog.underlying 147=some (.int .u64):=Tryz.underlying147
theorem aUv:Tryz.prog.underlying 202=some (.array 24 5):=Tryz.underlying202
theorem xsz5:Sz Tryz.prog 5 1:=by unfold Sz; kernel_rfl
theorem xel5:El Tryz.prog 5 1 1 ([.int .u8 0]):=⟨by kernel_rfl,by kernel_rfl,by kernel_rfl,by decide,by decide⟩
theorem xz5:Z8 Tryz.prog 5:=by unfold Z8; kernel_rfl
theorem aMp:Go.OB.Zero Tryz.prog 202 (List.replicate 24 (.int .u8 0)):=by unfold Go.OB.Zero; kernel_rfl
theorem xen142:Go.OB.Enters Tryz.prog 142:=⟨_,Tryz.func142,rfl,by kernel_rfl⟩
theorem xen143:Go.OB.Enters Tryz.prog 143:=⟨_,Tryz.func143,rfl,by kernel_rfl⟩
theorem xen144:Go.OB.Enters Tryz.prog 144:=⟨_,Tryz.func144,rfl,by kernel_rfl⟩
theorem aTi {u:Nat}(hu:u<100)(w:World):Calls Tryz.prog 142 #[.int .i64 (u:Int)] w fun e w'=>e= .returned (.string (bs (Lib.decDigits u)))∧w'=w:=Any.internal_strconv_small shLays283 u hu w
theorem fmt_c {w:World}{b u:Nat}(hb:Blk w b (List.replicate 24 (.int .u8 0)) 202)(hu1:1≤u)(hu64:u<18446744073709551616):
    Calls Tryz.prog 144 #[.slice (some ⟨b,0,none⟩) (Lib.nDigits u) 24,.int .u64 (u:Int)] w fun e w'=>e= .returned (.tuple #[])∧ ∃k v' dk,w'=(putRow aFc w b 0 dk).drewN k∧Lib.FmtInv (Lib.nDigits u) u 0 v' dk:=by
  have hn:=Lib.nDigits_le20 u hu64
  have hH:Holds (fun (b:UInt8)=>Value.int .u8 (b.toNat:Int)) w b 0 (Array.replicate (Lib.nDigits u) (0:UInt8)):=fun j hj=>by
    rw [Array.size_replicate] at hj
    refine ⟨?_,hb.frozen _⟩
    rw [getElem!_pos _ j (by rw [Array.size_replicate]; exact hj),Array.getElem_replicate]
    refine hb.cell ?_
    rw [Nat.zero_add,List.getElem?_replicate,if_pos (by omega)]
    rfl
  have q:=Any.internal_strconv_formatBase10 aJu b 0 24 u (Array.replicate (Lib.nDigits u) 0) w hH (by rw [Array.size_replicate]; exact Lib.lt_pow_nDigits u) hu64 (by rw [Array.size_replicate]; omega)
  rw [Array.size_replicate] at q
  exact q
theorem Fcuw (p0 : List Int) (p1 p2 : Int) (v0 : Value) (r : List Int) (hF : Fcu p0 p1 p2 = some r) (O S : List Nat) (w : World) (H : Hd O w w S [.own (Rp.int .u8) v0 5 p0, .fz (.at 1 0 ((Fl.arr 20 (Fl.int .u64)).f zO))]) :
    Calls Tryz.prog 126 ([v0, .int .u64 p1, .int .i64 p2] : List Value).toArray w fun e w' => ∃ u, e = .returned u ∧ Hd O w w' S [.own (Rp.int .u8) u 5 r] := by
  unfold Fcu at hF
  split at hF
  · rename_i c
    obtain ⟨rfl, c1, c2, c3⟩ := c
    have hr := Option.some.inj hF
    subst hr
    obtain ⟨u, rfl⟩ : ∃ u : Nat, p1 = u := ⟨p1.toNat, by omega⟩
    rw [Int.toNat_natCast]
    have hu64 : u < 18446744073709551616 := by omega
    have hn20 := Lib.nDigits_le20 u hu64
    have hlen : (nums (Lib.decDigits u)).length = Lib.nDigits u := by rw [kX, Lib.decDigits_length]
    have ha : app' 1 p0 (nums (Lib.decDigits u)) = some (p0 ++ nums (Lib.decDigits u)) := by
      unfold app'
      rw [if_pos ⟨by rw [maxLen_eq, hlen]; omega, by rw [hlen]; omega⟩]
    refine jS 36 Tryz.func126 rfl rfl rfl ?_
    refine zB fun K1 hK1 => ?_
    refine zA ?_
    refine wI rfl rfl (yZ rfl) ?_
    refine (zK (zD (hK1 _ _ ?_)))
    refine zB fun K2 hK2 => ?_
    refine zB fun K3 hK3 => ?_
    refine zA ?_
    refine wI rfl rfl (bG (v := .int _ _) rfl) ?_
    refine wI rfl rfl (xA rfl rfl) ?_
    refine (zK (zD (hK3 _ _ ?_)))
    first | refine aJw rfl (fun c1 => ?_) (fun c1 => ?_) | refine vT rfl (fun c1 => ?_) (fun c1 => ?_)
    · refine zB fun K4 hK4 => ?_
      refine zB fun K5 hK5 => ?_
      refine zA ?_
      refine wI rfl rfl (bG (v := .int _ _) rfl) ?_
      refine wI rfl rfl (yX rfl rfl) ?_
      refine (zK (zD (hK5 _ _ ?_)))
      first | refine aJw rfl (fun c2 => ?_) (fun c2 => ?_) | refine vT rfl (fun c2 => ?_) (fun c2 => ?_)
      · refine zB fun K6 hK6 => ?_
        refine zA ?_
        refine wI rfl rfl (bG (v := v0) rfl) ?_
        refine wI rfl rfl (bG (v := .int _ _) rfl) ?_
        refine wI rfl rfl (aS xu147 xu3 rfl (wrap_i64 (by omega) (by omega))) ?_
        refine yJ rfl rfl (yD xen142 rfl) (aTi (by omega) w) ?_
        rintro _ w1 ⟨rfl, rfl⟩
        refine ⟨_, rfl, ?_⟩
        refine yH rfl rfl (wU H (i := 0) rfl xu50 xu9 xz5 rfl rfl ha) ?_
        rintro va w2 H
        refine wI rfl rfl (yZ (v := va) rfl) ?_
        refine (zK (zD (hK6 _ _ ?_)))
        refine (zN (zJ (zJ (gW (v1 := va) rfl rfl ?_))))
        exact ⟨_, rfl, H.pick [0] (by decide)⟩
      · refine (yM (zD (hK4 _ _ ?_)))
        refine zB fun K6 hK6 => ?_
        refine zA ?_
        refine yH rfl rfl (xB aMp H) ?_
        rintro _ w3 ⟨b, rfl, H⟩
        refine (zK (zD (hK6 _ _ ?_)))
        refine zB fun K7 hK7 => ?_
        refine zA ?_
        refine wI rfl rfl (bG (v := .int _ _) rfl) ?_
        have H2 := H
        refine yJ rfl rfl (yD xen143 rfl) (Felw (u : Int) _ (aAi (by omega) hu64) _ _ _ (H.enter [] [1] (by decide) rfl)) ?_
        rintro _ w4 ⟨rfl, G⟩
        have H := H2.step (G.only : Only [] _ _)
        refine ⟨_, rfl, ?_⟩
        refine wI rfl rfl (yZ (v := .int _ _) rfl) ?_
        refine (zK (zD (hK7 _ _ ?_)))
        refine zB fun K8 hK8 => ?_
        refine zA ?_
        refine wI rfl rfl (bG (v := .int _ _) rfl) ?_
        refine wI rfl rfl (aBv aUv xsz5 rfl rfl (show Lib.nDigits u ≤ 24 by omega) (by decide)) ?_
        refine wI rfl rfl (bG (v := .int _ _) rfl) ?_
        refine yJ rfl rfl (yD xen144 rfl) (fmt_c (H.item (i := 2) rfl) (by omega) hu64) ?_
        rintro _ w5 ⟨rfl, k, v', dk, rfl, hF⟩
        have H := H.wr (i := 2) rfl (Wr.put (H.item (i := 2) rfl) dk k)
        refine ⟨_, rfl, ?_⟩
        refine (zK (zD (hK8 _ _ ?_)))
        refine zB fun K9 hK9 => ?_
        refine zA ?_
        refine wI rfl rfl (bG (v := v0) rfl) ?_
        refine wI rfl rfl (bG (v := .int _ _) rfl) ?_
        refine wI rfl rfl (aBv aUv xsz5 rfl rfl (show Lib.nDigits u ≤ 24 by omega) (by decide)) ?_
        refine yH rfl rfl (bD H (i := 0) rfl xu50 xel5 rfl rfl ⟨_, jV.2 rfl, by rw [hlen]; exact Blk.slo (H.item (i := 2) rfl) (aQf hF (by omega)) (by show (List.map _ _).length = _; rw [List.length_map, hlen]; exact (Nat.mul_one _).symm) (by omega) (by rw [maxLen_eq]; omega)⟩ ha) ?_
        rintro va w6 H
        refine wI rfl rfl (yZ (v := va) rfl) ?_
        refine (zK (zD (hK9 _ _ ?_)))
        refine (zN (zJ (gW (v1 := va) rfl rfl ?_)))
        exact ⟨_, rfl, H.pick [0] (by decide)⟩
    · exact absurd rfl c1
  · cases hF
end Go.Proofs.YthllgjnlmjpinaaGreatDoor.E
