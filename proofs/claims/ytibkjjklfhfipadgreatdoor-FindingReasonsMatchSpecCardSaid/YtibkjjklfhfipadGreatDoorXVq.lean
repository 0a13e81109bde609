/- Laws that the claim stands on; no condition beyond those stated. -/
import Derived.Test.YtibkjjklfhfipadGreatDoorHW
import Derived.Test.YtibkjjklfhfipadGreatDoorPLb
import Derived.Lib.AppendIntMem
import Derived.Lib.ItoaMem
namespace Go.Lf
open Go.RowKit Go.OB Go.Sort
theorem aNx {u:Nat} (a:1<=u) (d:u<18446744073709551616):Fej (u:Int)=some ((Lib.nDigits u:Nat):Int):=by
 have q:=Lib.numDigits_eq u a d;have j:Lib.bitLen u<=64:=Lib.bitLen_le u 64 (Nat.le_refl _) (by omega);unfold Fej Fe9;rw [if_pos (by omega),zC,Int.toNat_natCast];generalize Lib.bitLen u=b at *
 have e:Fch (b:Int)=some ((Lib.l10 b:Nat):Int):=by
  unfold Fch aEa;simp only [zH];rw [wrap_i64 (by omega) (by omega),if_pos (by decide),zC]
  congr 1
 rw [e,zC];have f:=q.2;have i:at' zY.l ((Lib.l10 b:Nat):Int)=some ((10^Lib.l10 b:Nat):Int):=by
  generalize Lib.l10 b=k at f;have:=(by decide+kernel: ∀k:Fin 20,at' zY.l ((k.1:Nat):Int)=some ((10^k.1:Nat):Int)) ⟨k,by omega⟩;exact this
 rw [i,zC];simp only [zH];unfold Fdw
 by_cases c:10^Lib.l10 b<=u
 ·rw [dT (show((10^Lib.l10 b:Nat):Int)<=(u:Int)from Int.ofNat_le.2 c),zS,zC,wrap_i64 (by omega) (by omega)];rw [if_pos c]at q
  congr 1;omega
 ·rw [qD (λh=>c (Int.ofNat_le.1 h)),zK,zC,wrap_i64 (by omega) (by omega)];rw [if_neg c]at q
  congr 1;omega
theorem aFf {P:Program}{w:World}{ρ:Env}{t e ty:TypeId}{x hi:Operand}{b n h:Nat}{d:Option Nat}{pos:String}{af:Array Edge}{g:Option (Nat×Bool)}(a:P.underlying t=some (.array n e))(j:Sz P e 1)(k:ev ρ x= .pointer (some ⟨b,0,none⟩))(hh:ev ρ hi= .int .i64 (h:Int))(o:h<=n)(_:0<n):
    Do P ⟨d,.slice t x none (some hi) none,ty,pos,af,g⟩ ρ w (.slice (some ⟨b,0,none⟩) h n) w:=by
 have i:P.elem t=e:=by simp [Program.elem,a]
 have c:P.arrayLen t=n:=by simp [Program.arrayLen,a]
 have f:P.underlying t=some (.array (P.arrayLen t) (P.elem t)):=by rw [i,c];exact a
 unfold Do;simp [execOp,k,hh,run_sliceAt_array_h w t ⟨b,0,none⟩ f .i64 (h:Int) (by omega) (by rw [c];omega),i,c,jA j,slicedAt,Addr.add_none]
def encB (b:UInt8):Value:= .int .u8 (b.toNat:Int)
theorem Wr.put {w:World}{b:Nat}{cs:List Value}{T:TypeId} (a:Blk w b cs T) (d:Array UInt8) (k:Nat):Wr w ((putRow encB w b 0 d).drewN k) b (putCells encB 0 d cs.toArray).toList T:=by
 have f:=a.lt;unfold Blk at a;refine⟨?_,⟨rfl,rfl,rfl,?_,λi _ h=>?_⟩,?_⟩;unfold Blk;rw [World.heap_drewN];simp [putRow,mapBlock,Array.getElem?_modify,a,onCells];rw [World.heap_drewN];simp;rw [World.heap_drewN];have c:b≠i:=λe=>h (by simp [e]);simp [putRow,mapBlock,Array.getElem?_modify,c];rw [World.heap_drewN];simp
theorem aXo {u c:Nat}{a:Array UInt8} (h:Lib.FmtInv (Lib.nDigits u) u 0 c a) (f:Lib.nDigits u<=24):
  ((putCells encB 0 a (List.replicate 24 (Value.int .u8 0)).toArray).toList.drop 0).take (Lib.nDigits u*1)=ints .u8 (nums (Lib.decDigits u)):=by
 have d:a.size=Lib.nDigits u:=h.size;have hd:=Lib.decDigits_length u;apply List.ext_getElem?;intro j;rw [List.drop_zero,Nat.mul_one]
 by_cases b:j<Lib.nDigits u
 ·rw [List.getElem?_take,if_pos b];have q:=Lib.row_is_numeral h j (by omega);have e:(ints .u8 (nums (Lib.decDigits u)))[j]? =some (encB a[j]!):=by
   rw [<-q];simp [ints,nums,encB,hd,b]
  rw [e];simp only [putCells,Array.getElem?_toList,Array.getElem?_mapIdx];have:j<24:=by omega
  simp [this,d,b]
 ·rw [List.getElem?_eq_none (by rw [List.length_take];omega),List.getElem?_eq_none (by simp [ints,nums];omega)]
end Go.Lf
namespace Go.Proofs.YtibkjjklfhfipadGreatDoor.E
open Go.RowKit Go.OB Go.Lf Go.Sort
theorem xu3:Tryz.prog.underlying 3=some (.int .i64):=Tryz.underlying3
theorem xu9:Tryz.prog.underlying 9=some .string:=Tryz.underlying9
theorem xu29:Tryz.prog.underlying 29=some (.slice 5):=Tryz.underlying29
theorem xu166:Tryz.prog.underlying 166=some (.int .u64):=Tryz.underlying166
theorem xu217:Tryz.prog.underlying 217=some (.array 24 5):=Tryz.underlying217
theorem xsz5:Sz Tryz.prog 5 1:=by unfold Sz;kernel_rfl
theorem xel5:El Tryz.prog 5 1 1 ([.int .u8 0]):=⟨by kernel_rfl,by kernel_rfl,by kernel_rfl,by decide,by decide⟩
theorem xz5:Z8 Tryz.prog 5:=by unfold Z8;kernel_rfl
theorem xzero217:Go.OB.Zero Tryz.prog 217 (List.replicate 24 (.int .u8 0)):=by unfold Go.OB.Zero;kernel_rfl
theorem xen164:Go.OB.Enters Tryz.prog 164:=⟨_,Tryz.func164,rfl,by kernel_rfl⟩
theorem xen165:Go.OB.Enters Tryz.prog 165:=⟨_,Tryz.func165,rfl,by kernel_rfl⟩
theorem xen166:Go.OB.Enters Tryz.prog 166:=⟨_,Tryz.func166,rfl,by kernel_rfl⟩
theorem small_c {u:Nat}(a:u<100)(w:World):Calls Tryz.prog 164 #[.int .i64 (u:Int)] w λe w'=>e= .returned (.string (bs (Lib.decDigits u)))/\w'=w:=Any.internal_strconv_small shLays283 u a w
theorem fmt_c {w:World}{b u:Nat}(c:Blk w b (List.replicate 24 (.int .u8 0)) 217)(_:1<=u)(a:u<18446744073709551616):
  Calls Tryz.prog 166 #[.slice (some ⟨b,0,none⟩) (Lib.nDigits u) 24,.int .u64 (u:Int)] w λe w'=>e= .returned (.tuple #[])/\ ∃k i d,w'=(putRow encB w b 0 d).drewN k/\Lib.FmtInv (Lib.nDigits u) u 0 i d:=by
 have n:=Lib.nDigits_le20 u a;have l:Holds (λ(b:UInt8)=>Value.int .u8 (b.toNat:Int)) w b 0 (Array.replicate (Lib.nDigits u) (0:UInt8)):=λj f=>by
  rw [Array.size_replicate]at f;refine⟨?_,c.frozen _⟩;rw [getElem!_pos _ j (by rw [Array.size_replicate];exact f),Array.getElem_replicate];refine c.cell ?_;rw [Nat.zero_add,List.getElem?_replicate,if_pos (by omega)];rfl
 have q:=Any.internal_strconv_formatBase10 shLays285 b 0 24 u (Array.replicate (Lib.nDigits u) 0) w l (by rw [Array.size_replicate];exact Lib.lt_pow_nDigits u) a (by rw [Array.size_replicate];omega);rw [Array.size_replicate]at q;exact q
theorem Fcjw (o:List Int) (p B:Int) (v0:Value) (r:List Int) (j:Fcj o p B=some r) (O S:List Nat) (w:World) (H:Hd O w w S [.own (Rp.int .u8) v0 5 o,.fz (.at 1 0 ((Fl.arr 20 (Fl.int .u64)).f zY))]):
  Calls Tryz.prog 129 ([v0,.int .u64 p,.int .i64 B]:List Value).toArray w λe w'=> ∃u,e= .returned u/\Hd O w w' S [.own (Rp.int .u8) u 5 r]:=by
 unfold Fcj at j;split at j
 ·rename_i c;obtain⟨rfl,l,c2,c3⟩:=c;have E:=oI j;subst E;obtain⟨u,rfl⟩: ∃u:Nat,p=u:=⟨p.toNat,by omega⟩;rw [Int.toNat_natCast];have d:u<18446744073709551616:=by omega
  have C:=Lib.nDigits_le20 u d;have a:(nums (Lib.decDigits u)).length=Lib.nDigits u:=by rw [aAj,Lib.decDigits_length]
  have D:app' 1 o (nums (Lib.decDigits u))=some (o++nums (Lib.decDigits u)):=by
   unfold app';rw [if_pos ⟨by rw [maxLen_eq,a];omega,by rw [a];omega⟩]
  refine tK 36 Tryz.func129 rfl rfl rfl ?_;refine dZ λ_ q=>?_
  refine zD ?_;refine aI rfl rfl (yI rfl) ?_;refine(yN (zF (q _ _ ?_)));refine dZ λ_ _=>?_
  refine dZ λ_ s=>?_
  refine zD ?_;refine aI rfl rfl (nU (v:= .int _ _) rfl) ?_;refine aI rfl rfl (aGr rfl rfl) ?_;refine(yN (zF (s _ _ ?_)))
  first |refine WP_if rfl (λl=>?_) (λl=>?_)|refine aTc rfl (λl=>?_) (λl=>?_)
  ·refine dZ λ_ t=>?_
   refine dZ λ_ x=>?_
   refine zD ?_;refine aI rfl rfl (nU (v:= .int _ _) rfl) ?_;refine aI rfl rfl (aQr rfl rfl) ?_;refine(yN (zF (x _ _ ?_)))
   first |refine WP_if rfl (λc2=>?_) (λc2=>?_)|refine aTc rfl (λc2=>?_) (λc2=>?_)
   ·refine dZ λI h=>?_
    refine zD ?_;refine aI rfl rfl (nU (v:=v0) rfl) ?_;refine aI rfl rfl (nU (v:= .int _ _) rfl) ?_;refine aI rfl rfl (jR xu166 xu3 rfl (wrap_i64 (by omega) (by omega))) ?_;refine xC rfl rfl (yG xen164 rfl) (small_c (by omega) w) ?_;rintro _ _ ⟨rfl,rfl⟩;refine⟨_,rfl,?_⟩;refine aBk rfl rfl (aPv H (i:=0) rfl xu29 xu9 xz5 rfl rfl D) ?_;rintro n _ H;refine aI rfl rfl (yI (v:=n) rfl) ?_;refine(yN (zF (h _ _ ?_)));refine(zI (zG (zG (aLr (v1:=n) rfl rfl ?_))));exact⟨_,rfl,H.U [0] (by decide)⟩
   ·refine(yJ (zF (t _ _ ?_)));refine dZ λI h=>?_
    refine zD ?_;refine aBk rfl rfl (yL xzero217 H) ?_;rintro _ _ ⟨_,rfl,H⟩;refine(yN (zF (h _ _ ?_)));refine dZ λ_ y=>?_
    refine zD ?_;refine aI rfl rfl (nU (v:= .int _ _) rfl) ?_;have J:=H;refine xC rfl rfl (yG xen165 rfl) (Fejw (u:Int) _ (aNx (by omega) d) _ _ _ (H.W [] [1] (by decide) rfl)) ?_;rintro _ _ ⟨rfl,G⟩;have H:=J.step (G.only:Only [] _ _);refine⟨_,rfl,?_⟩;refine aI rfl rfl (yI (v:= .int _ _) rfl) ?_;refine(yN (zF (y _ _ ?_)));refine dZ λ_ z=>?_
    refine zD ?_;refine aI rfl rfl (nU (v:= .int _ _) rfl) ?_;refine aI rfl rfl (aFf xu217 xsz5 rfl rfl (show Lib.nDigits u<=24 by omega) (by decide)) ?_;refine aI rfl rfl (nU (v:= .int _ _) rfl) ?_;refine xC rfl rfl (yG xen166 rfl) (fmt_c (H.V (i:=2) rfl) (by omega) d) ?_;rintro _ _ ⟨rfl,k,_,K,rfl,j⟩;have H:=H.wr (i:=2) rfl (Wr.put (H.V (i:=2) rfl) K k);refine⟨_,rfl,?_⟩;refine(yN (zF (z _ _ ?_)));refine dZ λ_ A=>?_
    refine zD ?_;refine aI rfl rfl (nU (v:=v0) rfl) ?_;refine aI rfl rfl (nU (v:= .int _ _) rfl) ?_;refine aI rfl rfl (aFf xu217 xsz5 rfl rfl (show Lib.nDigits u<=24 by omega) (by decide)) ?_;refine aBk rfl rfl (kP H (i:=0) rfl xu29 xel5 rfl rfl ⟨_,aAi.2 rfl,by rw [a];exact Blk.slo (H.V (i:=2) rfl) (aXo j (by omega)) (by show(List.map _ _).length=_;rw [List.length_map,a];exact(Nat.mul_one _).symm) (by omega) (by rw [maxLen_eq];omega)⟩ D) ?_;rintro n _ H;refine aI rfl rfl (yI (v:=n) rfl) ?_;refine(yN (zF (A _ _ ?_)));refine(zI (zG (aLr (v1:=n) rfl rfl ?_)));exact⟨_,rfl,H.U [0] (by decide)⟩
  ·exact absurd rfl l
 ·cases j
open Go.Shelf Go.Proofs

theorem Fhow (b:Int) (r:Str) (a:Fho b=some r) (O S:List Nat) (w:World) (H:Hd O w w S []):
  Calls Tryz.prog 170 ([.int .i64 b]:List Value).toArray w λe w'=>e= .returned (.string (bs r))/\Hd O w w' S []:=by
 unfold Fho at a;split at a
 ·rename_i c;obtain⟨n,rfl⟩:=Int.eq_ofNat_of_zero_le c.1;have d:=oI a;subst d;exact(Any.strconv_Itoa_small {bAo with} n (by omega) w).mono λe w' ⟨f,h⟩=>⟨f,by subst h;exact H⟩
 ·cases a

theorem aNb {w w':World}(h:Below w.heap.size w w'):Only [] w w':=Only.of_below h
theorem Fgow (a:Str) (r:Int×Bool) (b:Fgo a=some r) (O S:List Nat) (w:World) (H:Hd O w w S [.fz (.gi 5)]):
  Calls Tryz.prog 169 ([.string (bs a)]:List Value).toArray w λe w'=> ∃u,e= .returned (.tuple #[.int .i64 r.1,u])/\Hd O w w' S [.fz (.ic u r.2)]:=by
 obtain⟨-,-,ev,j,k⟩:frees O [Th.fz (.gi 5)] 5/\5<w.heap.size/\ ∃v,Cells w ⟨5,0,none⟩ [v]/\(v= .nilIface\/ ∃T x,v= .iface T x):=H.V (i:=0) rfl;have l:w.cell? ⟨5,0,none⟩=some ev:=j.get (i:=0) rfl;unfold Fgo at b;split at b
 ·rename_i c;have h:(bs a).size<=18:=by rw [sZ];exact c
  have hd:(bs a).data.toList=a:=by simp [bs]
  split at b
  ·rename_i n d;have f:=oI b;subst f;refine(Any.strconv_Atoi {aLy with} (bs a) n h (by rw [hd];exact d) w).mono ?_;rintro e w' ⟨rfl,t,o⟩;have H:=H.step (w':=w') (aNb (by rw [o];exact Lib.bytesWorld_below _ _ _));have H:=H.fz (.ic .nilIface true) rfl;exact⟨_,rfl,H.U [1] (by decide)⟩
  ·rename_i d;have f:=oI b;subst f;refine(Any.strconv_Atoi_err aLy (bs a) h (by rw [hd];exact d) ev w l k).mono ?_;rintro e w' ⟨B,rfl,-,-,p⟩;have H:=H.step (aNb p);have H:=H.fz (.ic (.iface (ren.t 168) (.pointer (some ⟨B,0,none⟩))) false) ⟨_,_,rfl⟩;exact⟨_,rfl,H.U [1] (by decide)⟩
 ·cases b
end Go.Proofs.YtibkjjklfhfipadGreatDoor.E
