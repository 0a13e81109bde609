/- Laws that the claim stands on; no condition beyond those stated. -/
import Derived.Test.YtbjofgmdhbiekaaGreatDoorHW
import Derived.Test.YtbjofgmdhbiekaaGreatDoorPLb
import Derived.Lib.AppendIntMem
import Derived.Lib.ItoaMem
namespace Go.Proofs.YtbjofgmdhbiekaaGreatDoor.E
open Go.RowKit Go.OB Go.Lf Go.Sort
open Go.Shelf Go.Proofs

theorem Fdiw (b:Int) (r:Str) (a:Fdi b=some r) (O S:List Nat) (w:World) (H:Hd O w w S []):
  Calls Tryz.prog 243 ([.int .i64 b]:List Value).toArray w λe w'=>e= .returned (.string (bs r))/\Hd O w w' S []:=by
 unfold Fdi at a;split at a
 ·rename_i c;obtain⟨n,rfl⟩:=Int.eq_ofNat_of_zero_le c.1;have d:=oI a;subst d;exact(Any.strconv_Itoa_small {aQl with} n (by omega) w).mono λe w' ⟨f,g⟩=>⟨f,by subst g;exact H⟩
 ·cases a

theorem aIr {w w':World}(h:Below w.heap.size w w'):Only [] w w':=Only.of_below h
theorem Fdnw (a:Str) (r:Int×Bool) (b:Fdn a=some r) (O S:List Nat) (w:World) (H:Hd O w w S [.fz (.gi 4)]):
  Calls Tryz.prog 242 ([.string (bs a)]:List Value).toArray w λe w'=> ∃u,e= .returned (.tuple #[.int .i64 r.1,u])/\Hd O w w' S [.fz (.ic u r.2)]:=by
 obtain⟨-,-,ev,h,j⟩:frees O [Th.fz (.gi 4)] 4/\4<w.heap.size/\ ∃v,Cells w ⟨4,0,none⟩ [v]/\(v= .nilIface\/ ∃T x,v= .iface T x):=H.V (i:=0) rfl;have k:w.cell? ⟨4,0,none⟩=some ev:=h.get (i:=0) rfl;unfold Fdn at b;split at b
 ·rename_i c;have g:(bs a).size<=18:=by rw [vK];exact c
  have hd:(bs a).data.toList=a:=by simp [bs]
  split at b
  ·rename_i n d;have f:=oI b;subst f;refine(Any.strconv_Atoi {aHt with} (bs a) n g (by rw [hd];exact d) w).mono ?_;rintro e w' ⟨rfl,t,l⟩;have H:=H.step (w':=w') (aIr (by rw [l];exact Lib.bytesWorld_below _ _ _));have H:=H.fz (.ic .nilIface true) rfl;exact⟨_,rfl,H.U [1] (by decide)⟩
  ·rename_i d;have f:=oI b;subst f;refine(Any.strconv_Atoi_err aHt (bs a) g (by rw [hd];exact d) ev w k j).mono ?_;rintro e w' ⟨B,rfl,-,-,m⟩;have H:=H.step (aIr m);have H:=H.fz (.ic (.iface (ren.t 168) (.pointer (some ⟨B,0,none⟩))) false) ⟨_,_,rfl⟩;exact⟨_,rfl,H.U [1] (by decide)⟩
 ·cases b
end Go.Proofs.YtbjofgmdhbiekaaGreatDoor.E
