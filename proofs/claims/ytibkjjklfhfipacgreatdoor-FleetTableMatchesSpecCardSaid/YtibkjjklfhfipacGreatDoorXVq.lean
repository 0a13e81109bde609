/- Laws that the claim stands on; no condition beyond those stated. -/
import Derived.Test.YtibkjjklfhfipacGreatDoorHW
import Derived.Test.YtibkjjklfhfipacGreatDoorPLb
import Derived.Lib.AppendIntMem
import Derived.Lib.ItoaMem
namespace Go.Lf
open Go.RowKit Go.OB Go.Sort
theorem aGo {u:Nat} (a:1<=u) (d:u<18446744073709551616):Fee (u:Int)=some ((Lib.nDigits u:Nat):Int):=by
 have q:=Lib.numDigits_eq u a d;have j:Lib.bitLen u<=64:=Lib.bitLen_le u 64 (Nat.le_refl _) (by omega);unfold Fee Ff1;rw [if_pos (by omega),zA,Int.toNat_natCast];generalize Lib.bitLen u=b at *
 have e:Fcj (b:Int)=some ((Lib.l10 b:Nat):Int):=by
  unfold Fcj aHj;simp only [zD];rw [wrap_i64 (by omega) (by omega),if_pos (by decide),zA]
  congr 1
 rw [e,zA];have f:=q.2;have i:at' zW.l ((Lib.l10 b:Nat):Int)=some ((10^Lib.l10 b:Nat):Int):=by
  generalize Lib.l10 b=k at f;have:=(by decide+kernel: ∀k:Fin 20,at' zW.l ((k.1:Nat):Int)=some ((10^k.1:Nat):Int)) ⟨k,by omega⟩;exact this
 rw [i,zA];simp only [zD];unfold Fei
 by_cases c:10^Lib.l10 b<=u
 ·rw [dT (show((10^Lib.l10 b:Nat):Int)<=(u:Int)from Int.ofNat_le.2 c),zL,zA,wrap_i64 (by omega) (by omega)];rw [if_pos c]at q
  congr 1;omega
 ·rw [qD (λh=>c (Int.ofNat_le.1 h)),zK,zA,wrap_i64 (by omega) (by omega)];rw [if_neg c]at q
  congr 1;omega
theorem aHz {P:Program}{w:World}{ρ:Env}{t e ty:TypeId}{x hi:Operand}{b n h:Nat}{d:Option Nat}{pos:String}{af:Array Edge}{g:Option (Nat×Bool)}(a:P.underlying t=some (.array n e))(j:Sz P e 1)(k:ev ρ x= .pointer (some ⟨b,0,none⟩))(hh:ev ρ hi= .int .i64 (h:Int))(o:h<=n)(_:0<n):
    Do P ⟨d,.slice t x none (some hi) none,ty,pos,af,g⟩ ρ w (.slice (some ⟨b,0,none⟩) h n) w:=by
 have i:P.elem t=e:=by simp [Program.elem,a]
 have c:P.arrayLen t=n:=by simp [Program.arrayLen,a]
 have f:P.underlying t=some (.array (P.arrayLen t) (P.elem t)):=by rw [i,c];exact a
 unfold Do;simp [execOp,k,hh,run_sliceAt_array_h w t ⟨b,0,none⟩ f .i64 (h:Int) (by omega) (by rw [c];omega),i,c,kG j,slicedAt,Addr.add_none]
def aMr (b:UInt8):Value:= .int .u8 (b.toNat:Int)
theorem Wr.put {w:World}{b:Nat}{cs:List Value}{T:TypeId} (a:Blk w b cs T) (d:Array UInt8) (k:Nat):Wr w ((putRow aMr w b 0 d).drewN k) b (putCells aMr 0 d cs.toArray).toList T:=by
 have f:=a.lt;unfold Blk at a;refine⟨?_,⟨rfl,rfl,rfl,?_,λi _ h=>?_⟩,?_⟩;unfold Blk;rw [World.heap_drewN];simp [putRow,mapBlock,Array.getElem?_modify,a,onCells];rw [World.heap_drewN];simp;rw [World.heap_drewN];have c:b≠i:=λe=>h (by simp [e]);simp [putRow,mapBlock,Array.getElem?_modify,c];rw [World.heap_drewN];simp
theorem bEk {u c:Nat}{a:Array UInt8} (h:Lib.FmtInv (Lib.nDigits u) u 0 c a) (f:Lib.nDigits u<=24):
  ((putCells aMr 0 a (List.replicate 24 (Value.int .u8 0)).toArray).toList.drop 0).take (Lib.nDigits u*1)=ints .u8 (nums (Lib.decDigits u)):=by
 have d:a.size=Lib.nDigits u:=h.size;have hd:=Lib.decDigits_length u;apply List.ext_getElem?;intro j;rw [List.drop_zero,Nat.mul_one]
 by_cases b:j<Lib.nDigits u
 ·rw [List.getElem?_take,if_pos b];have q:=Lib.row_is_numeral h j (by omega);have e:(ints .u8 (nums (Lib.decDigits u)))[j]? =some (aMr a[j]!):=by
   rw [<-q];simp [ints,nums,aMr,hd,b]
  rw [e];simp only [putCells,Array.getElem?_toList,Array.getElem?_mapIdx];have:j<24:=by omega
  simp [this,d,b]
 ·rw [List.getElem?_eq_none (by rw [List.length_take];omega),List.getElem?_eq_none (by simp [ints,nums];omega)]
end Go.Lf
namespace Go.Proofs.YtibkjjklfhfipacGreatDoor.E
open Go.RowKit Go.OB Go.Lf Go.Sort
theorem xu3:Tryz.prog.underlying 3=some (.int .i64):=Tryz.underlying3
theorem xu5:Tryz.prog.underlying 5=some (.int .u8):=Tryz.underlying5
theorem xu9:Tryz.prog.underlying 9=some .string:=Tryz.underlying9
theorem xu39:Tryz.prog.underlying 39=some (.slice 5):=Tryz.underlying39
theorem xu169:Tryz.prog.underlying 169=some (.int .u64):=Tryz.underlying169
theorem bHe:Tryz.prog.underlying 178=some (.array 24 5):=Tryz.underlying178
theorem xsz5:Sz Tryz.prog 5 1:=by unfold Sz;kernel_rfl
theorem xel5:El Tryz.prog 5 1 1 ([.int .u8 0]):=⟨by kernel_rfl,by kernel_rfl,by kernel_rfl,by decide,by decide⟩
theorem xz5:Z8 Tryz.prog 5:=by unfold Z8;kernel_rfl
theorem bAs:Go.OB.Zero Tryz.prog 178 (List.replicate 24 (.int .u8 0)):=by unfold Go.OB.Zero;kernel_rfl
theorem xen121:Go.OB.Enters Tryz.prog 121:=⟨_,Tryz.func121,rfl,by kernel_rfl⟩
theorem xen122:Go.OB.Enters Tryz.prog 122:=⟨_,Tryz.func122,rfl,by kernel_rfl⟩
theorem xen123:Go.OB.Enters Tryz.prog 123:=⟨_,Tryz.func123,rfl,by kernel_rfl⟩
theorem bFa {u:Nat}(a:u<100)(w:World):Calls Tryz.prog 121 #[.int .i64 (u:Int)] w λe w'=>e= .returned (.string (bs (Lib.decDigits u)))/\w'=w:=Any.internal_strconv_small shLays283 u a w
theorem fmt_c {w:World}{b u:Nat}(c:Blk w b (List.replicate 24 (.int .u8 0)) 178)(_:1<=u)(a:u<18446744073709551616):
  Calls Tryz.prog 123 #[.slice (some ⟨b,0,none⟩) (Lib.nDigits u) 24,.int .u64 (u:Int)] w λe w'=>e= .returned (.tuple #[])/\ ∃k i d,w'=(putRow aMr w b 0 d).drewN k/\Lib.FmtInv (Lib.nDigits u) u 0 i d:=by
 have n:=Lib.nDigits_le20 u a;have l:Holds (λ(b:UInt8)=>Value.int .u8 (b.toNat:Int)) w b 0 (Array.replicate (Lib.nDigits u) (0:UInt8)):=λj f=>by
  rw [Array.size_replicate]at f;refine⟨?_,c.frozen _⟩;rw [getElem!_pos _ j (by rw [Array.size_replicate];exact f),Array.getElem_replicate];refine c.cell ?_;rw [Nat.zero_add,List.getElem?_replicate,if_pos (by omega)];rfl
 have q:=Any.internal_strconv_formatBase10 aTa b 0 24 u (Array.replicate (Lib.nDigits u) 0) w l (by rw [Array.size_replicate];exact Lib.lt_pow_nDigits u) a (by rw [Array.size_replicate];omega);rw [Array.size_replicate]at q;exact q
theorem Fc1w (o:List Int) (p B:Int) (v0:Value) (r:List Int) (j:Fc1 o p B=some r) (O S:List Nat) (w:World) (H:Hd O w w S [.own (Rp.int .u8) v0 5 o,.fz (.at 0 0 ((Fl.arr 20 (Fl.int .u64)).f zW))]):
  Calls Tryz.prog 116 ([v0,.int .u64 p,.int .i64 B]:List Value).toArray w λe w'=> ∃u,e= .returned u/\Hd O w w' S [.own (Rp.int .u8) u 5 r]:=by
 unfold Fc1 at j;split at j
 ·rename_i c;obtain⟨rfl,l,c2,c3⟩:=c;have E:=oI j;subst E;obtain⟨u,rfl⟩: ∃u:Nat,p=u:=⟨p.toNat,by omega⟩;rw [Int.toNat_natCast];have d:u<18446744073709551616:=by omega
  have C:=Lib.nDigits_le20 u d;have a:(nums (Lib.decDigits u)).length=Lib.nDigits u:=by rw [nM,Lib.decDigits_length]
  have D:app' 1 o (nums (Lib.decDigits u))=some (o++nums (Lib.decDigits u)):=by
   unfold app';rw [if_pos ⟨by rw [maxLen_eq,a];omega,by rw [a];omega⟩]
  refine rC 36 Tryz.func116 rfl rfl rfl ?_;refine xJ λ_ q=>?_
  refine zF ?_;refine xQ rfl rfl (yJ rfl) ?_;refine(yK (zG (q _ _ ?_)));refine xJ λ_ _=>?_
  refine xJ λ_ s=>?_
  refine zF ?_;refine xQ rfl rfl (bF (v:= .int _ _) rfl) ?_;refine xQ rfl rfl (aHi rfl rfl) ?_;refine(yK (zG (s _ _ ?_)))
  first |refine aUa rfl (λl=>?_) (λl=>?_)|refine aFf rfl (λl=>?_) (λl=>?_)
  ·refine xJ λ_ t=>?_
   refine xJ λ_ x=>?_
   refine zF ?_;refine xQ rfl rfl (bF (v:= .int _ _) rfl) ?_;refine xQ rfl rfl (wZ rfl rfl) ?_;refine(yK (zG (x _ _ ?_)))
   first |refine aUa rfl (λc2=>?_) (λc2=>?_)|refine aFf rfl (λc2=>?_) (λc2=>?_)
   ·refine xJ λI h=>?_
    refine zF ?_;refine xQ rfl rfl (bF (v:=v0) rfl) ?_;refine xQ rfl rfl (bF (v:= .int _ _) rfl) ?_;refine xQ rfl rfl (jG xu169 xu3 rfl (wrap_i64 (by omega) (by omega))) ?_;refine xH rfl rfl (yG xen121 rfl) (bFa (by omega) w) ?_;rintro _ _ ⟨rfl,rfl⟩;refine⟨_,rfl,?_⟩;refine vF rfl rfl (aFx H (i:=0) rfl xu39 xu9 xz5 rfl rfl D) ?_;rintro n _ H;refine xQ rfl rfl (yJ (v:=n) rfl) ?_;refine(yK (zG (h _ _ ?_)));refine(zI (zH (zH (aIg (v1:=n) rfl rfl ?_))));exact⟨_,rfl,H.U [0] (by decide)⟩
   ·refine(yI (zG (t _ _ ?_)));refine xJ λI h=>?_
    refine zF ?_;refine vF rfl rfl (yQ bAs H) ?_;rintro _ _ ⟨_,rfl,H⟩;refine(yK (zG (h _ _ ?_)));refine xJ λ_ y=>?_
    refine zF ?_;refine xQ rfl rfl (bF (v:= .int _ _) rfl) ?_;have J:=H;refine xH rfl rfl (yG xen122 rfl) (Feew (u:Int) _ (aGo (by omega) d) _ _ _ (H.W [] [1] (by decide) rfl)) ?_;rintro _ _ ⟨rfl,G⟩;have H:=J.step (G.only:Only [] _ _);refine⟨_,rfl,?_⟩;refine xQ rfl rfl (yJ (v:= .int _ _) rfl) ?_;refine(yK (zG (y _ _ ?_)));refine xJ λ_ z=>?_
    refine zF ?_;refine xQ rfl rfl (bF (v:= .int _ _) rfl) ?_;refine xQ rfl rfl (aHz bHe xsz5 rfl rfl (show Lib.nDigits u<=24 by omega) (by decide)) ?_;refine xQ rfl rfl (bF (v:= .int _ _) rfl) ?_;refine xH rfl rfl (yG xen123 rfl) (fmt_c (H.V (i:=2) rfl) (by omega) d) ?_;rintro _ _ ⟨rfl,k,_,K,rfl,j⟩;have H:=H.wr (i:=2) rfl (Wr.put (H.V (i:=2) rfl) K k);refine⟨_,rfl,?_⟩;refine(yK (zG (z _ _ ?_)));refine xJ λ_ A=>?_
    refine zF ?_;refine xQ rfl rfl (bF (v:=v0) rfl) ?_;refine xQ rfl rfl (bF (v:= .int _ _) rfl) ?_;refine xQ rfl rfl (aHz bHe xsz5 rfl rfl (show Lib.nDigits u<=24 by omega) (by decide)) ?_;refine vF rfl rfl (bC H (i:=0) rfl xu39 xel5 rfl rfl ⟨_,vZ.2 rfl,by rw [a];exact Blk.slo (H.V (i:=2) rfl) (bEk j (by omega)) (by show(List.map _ _).length=_;rw [List.length_map,a];exact(Nat.mul_one _).symm) (by omega) (by rw [maxLen_eq];omega)⟩ D) ?_;rintro n _ H;refine xQ rfl rfl (yJ (v:=n) rfl) ?_;refine(yK (zG (A _ _ ?_)));refine(zI (zH (aIg (v1:=n) rfl rfl ?_)));exact⟨_,rfl,H.U [0] (by decide)⟩
  ·exact absurd rfl l
 ·cases j
open Go.Shelf Go.Proofs

end Go.Proofs.YtibkjjklfhfipacGreatDoor.E
