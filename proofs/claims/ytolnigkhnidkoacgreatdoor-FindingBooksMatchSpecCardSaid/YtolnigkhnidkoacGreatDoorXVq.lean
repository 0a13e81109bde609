/- Laws that the claim stands on; no condition beyond those stated. -/
import Derived.Test.YtolnigkhnidkoacGreatDoorHW
import Derived.Test.YtolnigkhnidkoacGreatDoorPLb
import Derived.Lib.AppendIntMem
import Derived.Lib.ItoaMem
namespace Go.Lf
open Go.RowKit Go.OB Go.Sort
theorem aMs {u:Nat} (a:1<=u) (d:u<18446744073709551616):Fcq (u:Int)=some ((Lib.nDigits u:Nat):Int):=by
 have q:=Lib.numDigits_eq u a d;have i:Lib.bitLen u<=64:=Lib.bitLen_le u 64 (Nat.le_refl _) (by omega);unfold Fcq Fd2;rw [if_pos (by omega),zC,Int.toNat_natCast];generalize Lib.bitLen u=b at *
 have e:Fbu (b:Int)=some ((Lib.l10 b:Nat):Int):=by
  unfold Fbu wL;simp only [zK];rw [wrap_i64 (by omega) (by omega),if_pos (by decide),zC]
  congr 1
 rw [e,zC];have f:=q.2;have g:at' zZ.l ((Lib.l10 b:Nat):Int)=some ((10^Lib.l10 b:Nat):Int):=by
  generalize Lib.l10 b=k at f;have:=(by decide+kernel: ∀k:Fin 20,at' zZ.l ((k.1:Nat):Int)=some ((10^k.1:Nat):Int)) ⟨k,by omega⟩;exact this
 rw [g,zC];simp only [zK];unfold Fdx
 by_cases c:10^Lib.l10 b<=u
 ·rw [dT (show((10^Lib.l10 b:Nat):Int)<=(u:Int)from Int.ofNat_le.2 c),zU,zC,wrap_i64 (by omega) (by omega)];rw [if_pos c]at q
  congr 1;omega
 ·rw [qD (λh=>c (Int.ofNat_le.1 h)),zQ,zC,wrap_i64 (by omega) (by omega)];rw [if_neg c]at q
  congr 1;omega
theorem aGc {P:Program}{w:World}{ρ:Env}{t e ty:TypeId}{x hi:Operand}{b n h:Nat}{d:Option Nat}{pos:String}{af:Array Edge}{g:Option (Nat×Bool)}(a:P.underlying t=some (.array n e))(j:Sz P e 1)(k:ev ρ x= .pointer (some ⟨b,0,none⟩))(hh:ev ρ hi= .int .i64 (h:Int))(m:h<=n)(_:0<n):
    Do P ⟨d,.slice t x none (some hi) none,ty,pos,af,g⟩ ρ w (.slice (some ⟨b,0,none⟩) h n) w:=by
 have i:P.elem t=e:=by simp [Program.elem,a]
 have c:P.arrayLen t=n:=by simp [Program.arrayLen,a]
 have f:P.underlying t=some (.array (P.arrayLen t) (P.elem t)):=by rw [i,c];exact a
 unfold Do;simp [execOp,k,hh,run_sliceAt_array_h w t ⟨b,0,none⟩ f .i64 (h:Int) (by omega) (by rw [c];omega),i,c,cZ j,slicedAt,Addr.add_none]
def encB (b:UInt8):Value:= .int .u8 (b.toNat:Int)
theorem Wr.put {w:World}{b:Nat}{cs:List Value}{T:TypeId} (a:Blk w b cs T) (d:Array UInt8) (k:Nat):Wr w ((putRow encB w b 0 d).drewN k) b (putCells encB 0 d cs.toArray).toList T:=by
 have f:=a.lt;unfold Blk at a;refine⟨?_,⟨rfl,rfl,rfl,?_,λi _ g=>?_⟩,?_⟩;unfold Blk;rw [World.heap_drewN];simp [putRow,mapBlock,Array.getElem?_modify,a,onCells];rw [World.heap_drewN];simp;rw [World.heap_drewN];have c:b≠i:=λe=>g (by simp [e]);simp [putRow,mapBlock,Array.getElem?_modify,c];rw [World.heap_drewN];simp
theorem aVf {u c:Nat}{a:Array UInt8} (h:Lib.FmtInv (Lib.nDigits u) u 0 c a) (f:Lib.nDigits u<=24):
  ((putCells encB 0 a (List.replicate 24 (Value.int .u8 0)).toArray).toList.drop 0).take (Lib.nDigits u*1)=ints .u8 (nums (Lib.decDigits u)):=by
 have d:a.size=Lib.nDigits u:=h.size;have hd:=Lib.decDigits_length u;apply List.ext_getElem?;intro j;rw [List.drop_zero,Nat.mul_one]
 by_cases b:j<Lib.nDigits u
 ·rw [List.getElem?_take,if_pos b];have q:=Lib.row_is_numeral h j (by omega);have e:(ints .u8 (nums (Lib.decDigits u)))[j]? =some (encB a[j]!):=by
   rw [<-q];simp [ints,nums,encB,hd,b]
  rw [e];simp only [putCells,Array.getElem?_toList,Array.getElem?_mapIdx];have:j<24:=by omega
  simp [this,d,b]
 ·rw [List.getElem?_eq_none (by rw [List.length_take];omega),List.getElem?_eq_none (by simp [ints,nums];omega)]
end Go.Lf
namespace Go.Proofs.YtolnigkhnidkoacGreatDoor.E
open Go.RowKit Go.OB Go.Lf Go.Sort
theorem xu3:Tryz.prog.underlying 3=some (.int .i64):=Tryz.underlying3
theorem xu9:Tryz.prog.underlying 9=some .string:=Tryz.underlying9
theorem xu31:Tryz.prog.underlying 31=some (.slice 5):=Tryz.underlying31
theorem xu205:Tryz.prog.underlying 205=some (.int .u64):=Tryz.underlying205
theorem xu243:Tryz.prog.underlying 243=some (.array 24 5):=Tryz.underlying243
theorem xsz5:Sz Tryz.prog 5 1:=by unfold Sz;kernel_rfl
theorem xel5:El Tryz.prog 5 1 1 ([.int .u8 0]):=⟨by kernel_rfl,by kernel_rfl,by kernel_rfl,by decide,by decide⟩
theorem xz5:Z8 Tryz.prog 5:=by unfold Z8;kernel_rfl
theorem xzero243:Go.OB.Zero Tryz.prog 243 (List.replicate 24 (.int .u8 0)):=by unfold Go.OB.Zero;kernel_rfl
theorem xen185:Go.OB.Enters Tryz.prog 185:=⟨_,Tryz.func185,rfl,by kernel_rfl⟩
theorem xen186:Go.OB.Enters Tryz.prog 186:=⟨_,Tryz.func186,rfl,by kernel_rfl⟩
theorem xen187:Go.OB.Enters Tryz.prog 187:=⟨_,Tryz.func187,rfl,by kernel_rfl⟩
theorem small_c {u:Nat}(a:u<100)(w:World):Calls Tryz.prog 185 #[.int .i64 (u:Int)] w λe w'=>e= .returned (.string (bs (Lib.decDigits u)))/\w'=w:=Any.internal_strconv_small shLays283 u a w
theorem fmt_c {w:World}{b u:Nat}(c:Blk w b (List.replicate 24 (.int .u8 0)) 243)(_:1<=u)(a:u<18446744073709551616):
  Calls Tryz.prog 187 #[.slice (some ⟨b,0,none⟩) (Lib.nDigits u) 24,.int .u64 (u:Int)] w λe w'=>e= .returned (.tuple #[])/\ ∃k h d,w'=(putRow encB w b 0 d).drewN k/\Lib.FmtInv (Lib.nDigits u) u 0 h d:=by
 have l:=Lib.nDigits_le20 u a;have i:Holds (λ(b:UInt8)=>Value.int .u8 (b.toNat:Int)) w b 0 (Array.replicate (Lib.nDigits u) (0:UInt8)):=λj f=>by
  rw [Array.size_replicate]at f;refine⟨?_,c.frozen _⟩;rw [getElem!_pos _ j (by rw [Array.size_replicate];exact f),Array.getElem_replicate];refine c.cell ?_;rw [Nat.zero_add,List.getElem?_replicate,if_pos (by omega)];rfl
 have q:=Any.internal_strconv_formatBase10 shLays285 b 0 24 u (Array.replicate (Lib.nDigits u) 0) w i (by rw [Array.size_replicate];exact Lib.lt_pow_nDigits u) a (by rw [Array.size_replicate];omega);rw [Array.size_replicate]at q;exact q
theorem Fbaw (m:List Int) (n z:Int) (v0:Value) (r:List Int) (h:Fba m n z=some r) (O S:List Nat) (w:World) (H:Hd O w w S [.own (Rp.int .u8) v0 5 m,.fz (.at 1 0 ((Fl.arr 20 (Fl.int .u64)).f zZ))]):
  Calls Tryz.prog 140 ([v0,.int .u64 n,.int .i64 z]:List Value).toArray w λe w'=> ∃u,e= .returned u/\Hd O w w' S [.own (Rp.int .u8) u 5 r]:=by
 unfold Fba at h;split at h
 ·rename_i c;obtain⟨rfl,j,c2,c3⟩:=c;have C:=oI h;subst C;obtain⟨u,rfl⟩: ∃u:Nat,n=u:=⟨n.toNat,by omega⟩;rw [Int.toNat_natCast];have d:u<18446744073709551616:=by omega
  have A:=Lib.nDigits_le20 u d;have a:(nums (Lib.decDigits u)).length=Lib.nDigits u:=by rw [aBd,Lib.decDigits_length]
  have B:app' 1 m (nums (Lib.decDigits u))=some (m++nums (Lib.decDigits u)):=by
   unfold app';rw [if_pos ⟨by rw [maxLen_eq,a];omega,by rw [a];omega⟩]
  refine sQ 36 Tryz.func140 rfl rfl rfl ?_;refine yZ λ_ o=>?_
  refine zD ?_;refine bY rfl rfl (yM rfl) ?_;refine(yN (zG (o _ _ ?_)));refine yZ λ_ _=>?_
  refine yZ λ_ p=>?_
  refine zD ?_;refine bY rfl rfl (bP (v:= .int _ _) rfl) ?_;refine bY rfl rfl (aEv rfl rfl) ?_;refine(yN (zG (p _ _ ?_)))
  first |refine WP_if rfl (λj=>?_) (λj=>?_)|refine aEu rfl (λj=>?_) (λj=>?_)
  ·refine yZ λ_ q=>?_
   refine yZ λ_ s=>?_
   refine zD ?_;refine bY rfl rfl (bP (v:= .int _ _) rfl) ?_;refine bY rfl rfl (aFd rfl rfl) ?_;refine(yN (zG (s _ _ ?_)))
   first |refine WP_if rfl (λc2=>?_) (λc2=>?_)|refine aEu rfl (λc2=>?_) (λc2=>?_)
   ·refine yZ λE g=>?_
    refine zD ?_;refine bY rfl rfl (bP (v:=v0) rfl) ?_;refine bY rfl rfl (bP (v:= .int _ _) rfl) ?_;refine bY rfl rfl (aK xu205 xu3 rfl (wrap_i64 (by omega) (by omega))) ?_;refine xP rfl rfl (yK xen185 rfl) (small_c (by omega) w) ?_;rintro _ _ ⟨rfl,rfl⟩;refine⟨_,rfl,?_⟩;refine nO rfl rfl (aDb H (i:=0) rfl xu31 xu9 xz5 rfl rfl B) ?_;rintro l _ H;refine bY rfl rfl (yM (v:=l) rfl) ?_;refine(yN (zG (g _ _ ?_)));refine(zJ (zF (zF (aMe (v1:=l) rfl rfl ?_))));exact⟨_,rfl,H.U [0] (by decide)⟩
   ·refine(yI (zG (q _ _ ?_)));refine yZ λE g=>?_
    refine zD ?_;refine nO rfl rfl (zY xzero243 H) ?_;rintro _ _ ⟨_,rfl,H⟩;refine(yN (zG (g _ _ ?_)));refine yZ λ_ t=>?_
    refine zD ?_;refine bY rfl rfl (bP (v:= .int _ _) rfl) ?_;have F:=H;refine xP rfl rfl (yK xen186 rfl) (Fcqw (u:Int) _ (aMs (by omega) d) _ _ _ (H.W [] [1] (by decide) rfl)) ?_;rintro _ _ ⟨rfl,G⟩;have H:=F.step (G.only:Only [] _ _);refine⟨_,rfl,?_⟩;refine bY rfl rfl (yM (v:= .int _ _) rfl) ?_;refine(yN (zG (t _ _ ?_)));refine yZ λ_ x=>?_
    refine zD ?_;refine bY rfl rfl (bP (v:= .int _ _) rfl) ?_;refine bY rfl rfl (aGc xu243 xsz5 rfl rfl (show Lib.nDigits u<=24 by omega) (by decide)) ?_;refine bY rfl rfl (bP (v:= .int _ _) rfl) ?_;refine xP rfl rfl (yK xen187 rfl) (fmt_c (H.V (i:=2) rfl) (by omega) d) ?_;rintro _ _ ⟨rfl,k,_,I,rfl,h⟩;have H:=H.wr (i:=2) rfl (Wr.put (H.V (i:=2) rfl) I k);refine⟨_,rfl,?_⟩;refine(yN (zG (x _ _ ?_)));refine yZ λ_ y=>?_
    refine zD ?_;refine bY rfl rfl (bP (v:=v0) rfl) ?_;refine bY rfl rfl (bP (v:= .int _ _) rfl) ?_;refine bY rfl rfl (aGc xu243 xsz5 rfl rfl (show Lib.nDigits u<=24 by omega) (by decide)) ?_;refine nO rfl rfl (wI H (i:=0) rfl xu31 xel5 rfl rfl ⟨_,aAr.2 rfl,by rw [a];exact Blk.slo (H.V (i:=2) rfl) (aVf h (by omega)) (by show(List.map _ _).length=_;rw [List.length_map,a];exact(Nat.mul_one _).symm) (by omega) (by rw [maxLen_eq];omega)⟩ B) ?_;rintro l _ H;refine bY rfl rfl (yM (v:=l) rfl) ?_;refine(yN (zG (y _ _ ?_)));refine(zJ (zF (aMe (v1:=l) rfl rfl ?_)));exact⟨_,rfl,H.U [0] (by decide)⟩
  ·exact absurd rfl j
 ·cases h
open Go.Shelf Go.Proofs

theorem Fgow (b:Int) (r:Str) (a:Fgo b=some r) (O S:List Nat) (w:World) (H:Hd O w w S []):
  Calls Tryz.prog 210 ([.int .i64 b]:List Value).toArray w λe w'=>e= .returned (.string (bs r))/\Hd O w w' S []:=by
 unfold Fgo at a;split at a
 ·rename_i c;obtain⟨n,rfl⟩:=Int.eq_ofNat_of_zero_le c.1;have d:=oI a;subst d;exact(Any.strconv_Itoa_small {aVi with} n (by omega) w).mono λe w' ⟨f,g⟩=>⟨f,by subst g;exact H⟩
 ·cases a

theorem aLl {w w':World}(h:Below w.heap.size w w'):Only [] w w':=Only.of_below h
theorem Ffgw (a:Str) (r:Int×Bool) (b:Ffg a=some r) (O S:List Nat) (w:World) (H:Hd O w w S [.fz (.gi 6)]):
  Calls Tryz.prog 209 ([.string (bs a)]:List Value).toArray w λe w'=> ∃u,e= .returned (.tuple #[.int .i64 r.1,u])/\Hd O w w' S [.fz (.ic u r.2)]:=by
 obtain⟨-,-,ev,h,j⟩:frees O [Th.fz (.gi 6)] 6/\6<w.heap.size/\ ∃v,Cells w ⟨6,0,none⟩ [v]/\(v= .nilIface\/ ∃T x,v= .iface T x):=H.V (i:=0) rfl;have k:w.cell? ⟨6,0,none⟩=some ev:=h.get (i:=0) rfl;unfold Ffg at b;split at b
 ·rename_i c;have g:(bs a).size<=18:=by rw [sH];exact c
  have hd:(bs a).data.toList=a:=by simp [bs]
  split at b
  ·rename_i n d;have f:=oI b;subst f;refine(Any.strconv_Atoi {aLb with} (bs a) n g (by rw [hd];exact d) w).mono ?_;rintro e w' ⟨rfl,t,l⟩;have H:=H.step (w':=w') (aLl (by rw [l];exact Lib.bytesWorld_below _ _ _));have H:=H.fz (.ic .nilIface true) rfl;exact⟨_,rfl,H.U [1] (by decide)⟩
  ·rename_i d;have f:=oI b;subst f;refine(Any.strconv_Atoi_err aLb (bs a) g (by rw [hd];exact d) ev w k j).mono ?_;rintro e w' ⟨B,rfl,-,-,m⟩;have H:=H.step (aLl m);have H:=H.fz (.ic (.iface (ren.t 168) (.pointer (some ⟨B,0,none⟩))) false) ⟨_,_,rfl⟩;exact⟨_,rfl,H.U [1] (by decide)⟩
 ·cases b
end Go.Proofs.YtolnigkhnidkoacGreatDoor.E
