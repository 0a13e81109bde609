/- Laws that the claim stands on; no condition beyond those stated. -/
import Derived.Test.YtbjofgmdhbiekaaGreatDoorHW
import Derived.Test.YtbjofgmdhbiekaaGreatDoorPLb
import Derived.Lib.AppendIntMem
import Derived.Lib.ItoaMem
namespace Go.Lf
open Go.RowKit Go.OB Go.Sort
theorem aMd {u:Nat} (a:1<=u) (d:u<18446744073709551616):Fdc (u:Int)=some ((Lib.nDigits u:Nat):Int):=by
 have q:=Lib.numDigits_eq u a d;have i:Lib.bitLen u<=64:=Lib.bitLen_le u 64 (Nat.le_refl _) (by omega);unfold Fdc Fdn;rw [if_pos (by omega),zC,Int.toNat_natCast];generalize Lib.bitLen u=b at *
 have e:Fbx (b:Int)=some ((Lib.l10 b:Nat):Int):=by
  unfold Fbx qH;simp only [zK];rw [wrap_i64 (by omega) (by omega),if_pos (by decide),zC]
  congr 1
 rw [e,zC];have f:=q.2;have g:at' yD.l ((Lib.l10 b:Nat):Int)=some ((10^Lib.l10 b:Nat):Int):=by
  generalize Lib.l10 b=k at f;have:=(by decide+kernel: ∀k:Fin 20,at' yD.l ((k.1:Nat):Int)=some ((10^k.1:Nat):Int)) ⟨k,by omega⟩;exact this
 rw [g,zC];simp only [zK];unfold Fdh
 by_cases c:10^Lib.l10 b<=u
 ·rw [dT (show((10^Lib.l10 b:Nat):Int)<=(u:Int)from Int.ofNat_le.2 c),zU,zC,wrap_i64 (by omega) (by omega)];rw [if_pos c]at q
  congr 1;omega
 ·rw [qD (λh=>c (Int.ofNat_le.1 h)),zQ,zC,wrap_i64 (by omega) (by omega)];rw [if_neg c]at q
  congr 1;omega
theorem aFl {P:Program}{w:World}{ρ:Env}{t e ty:TypeId}{x hi:Operand}{b n h:Nat}{d:Option Nat}{pos:String}{af:Array Edge}{g:Option (Nat×Bool)}(a:P.underlying t=some (.array n e))(j:Sz P e 1)(k:ev ρ x= .pointer (some ⟨b,0,none⟩))(hh:ev ρ hi= .int .i64 (h:Int))(o:h<=n)(_:0<n):
    Do P ⟨d,.slice t x none (some hi) none,ty,pos,af,g⟩ ρ w (.slice (some ⟨b,0,none⟩) h n) w:=by
 have i:P.elem t=e:=by simp [Program.elem,a]
 have c:P.arrayLen t=n:=by simp [Program.arrayLen,a]
 have f:P.underlying t=some (.array (P.arrayLen t) (P.elem t)):=by rw [i,c];exact a
 unfold Do;simp [execOp,k,hh,run_sliceAt_array_h w t ⟨b,0,none⟩ f .i64 (h:Int) (by omega) (by rw [c];omega),i,c,bC j,slicedAt,Addr.add_none]
def encB (b:UInt8):Value:= .int .u8 (b.toNat:Int)
theorem Wr.put {w:World}{b:Nat}{cs:List Value}{T:TypeId} (a:Blk w b cs T) (d:Array UInt8) (k:Nat):Wr w ((putRow encB w b 0 d).drewN k) b (putCells encB 0 d cs.toArray).toList T:=by
 have f:=a.lt;unfold Blk at a;refine⟨?_,⟨rfl,rfl,rfl,?_,λi _ g=>?_⟩,?_⟩;unfold Blk;rw [World.heap_drewN];simp [putRow,mapBlock,Array.getElem?_modify,a,onCells];rw [World.heap_drewN];simp;rw [World.heap_drewN];have c:b≠i:=λe=>g (by simp [e]);simp [putRow,mapBlock,Array.getElem?_modify,c];rw [World.heap_drewN];simp
theorem aVo {u c:Nat}{a:Array UInt8} (h:Lib.FmtInv (Lib.nDigits u) u 0 c a) (f:Lib.nDigits u<=24):
  ((putCells encB 0 a (List.replicate 24 (Value.int .u8 0)).toArray).toList.drop 0).take (Lib.nDigits u*1)=ints .u8 (nums (Lib.decDigits u)):=by
 have d:a.size=Lib.nDigits u:=h.size;have hd:=Lib.decDigits_length u;apply List.ext_getElem?;intro j;rw [List.drop_zero,Nat.mul_one]
 by_cases b:j<Lib.nDigits u
 ·rw [List.getElem?_take,if_pos b];have q:=Lib.row_is_numeral h j (by omega);have e:(ints .u8 (nums (Lib.decDigits u)))[j]? =some (encB a[j]!):=by
   rw [<-q];simp [ints,nums,encB,hd,b]
  rw [e];simp only [putCells,Array.getElem?_toList,Array.getElem?_mapIdx];have:j<24:=by omega
  simp [this,d,b]
 ·rw [List.getElem?_eq_none (by rw [List.length_take];omega),List.getElem?_eq_none (by simp [ints,nums];omega)]
end Go.Lf
namespace Go.Proofs.YtbjofgmdhbiekaaGreatDoor.E
open Go.RowKit Go.OB Go.Lf Go.Sort
theorem xu3:Tryz.prog.underlying 3=some (.int .i64):=Tryz.underlying3
theorem xu9:Tryz.prog.underlying 9=some .string:=Tryz.underlying9
theorem xu58:Tryz.prog.underlying 58=some (.slice 5):=Tryz.underlying58
theorem xu250:Tryz.prog.underlying 250=some (.int .u64):=Tryz.underlying250
theorem xu316:Tryz.prog.underlying 316=some (.array 24 5):=Tryz.underlying316
theorem xsz5:Sz Tryz.prog 5 1:=by unfold Sz;kernel_rfl
theorem xel5:El Tryz.prog 5 1 1 ([.int .u8 0]):=⟨by kernel_rfl,by kernel_rfl,by kernel_rfl,by decide,by decide⟩
theorem xz5:Z8 Tryz.prog 5:=by unfold Z8;kernel_rfl
theorem xzero316:Go.OB.Zero Tryz.prog 316 (List.replicate 24 (.int .u8 0)):=by unfold Go.OB.Zero;kernel_rfl
theorem xen257:Go.OB.Enters Tryz.prog 257:=⟨_,Tryz.func257,rfl,by kernel_rfl⟩
theorem xen258:Go.OB.Enters Tryz.prog 258:=⟨_,Tryz.func258,rfl,by kernel_rfl⟩
theorem xen259:Go.OB.Enters Tryz.prog 259:=⟨_,Tryz.func259,rfl,by kernel_rfl⟩
theorem small_c {u:Nat}(a:u<100)(w:World):Calls Tryz.prog 257 #[.int .i64 (u:Int)] w λe w'=>e= .returned (.string (bs (Lib.decDigits u)))/\w'=w:=Any.internal_strconv_small shLays283 u a w
theorem fmt_c {w:World}{b u:Nat}(c:Blk w b (List.replicate 24 (.int .u8 0)) 316)(_:1<=u)(a:u<18446744073709551616):
  Calls Tryz.prog 259 #[.slice (some ⟨b,0,none⟩) (Lib.nDigits u) 24,.int .u64 (u:Int)] w λe w'=>e= .returned (.tuple #[])/\ ∃k h d,w'=(putRow encB w b 0 d).drewN k/\Lib.FmtInv (Lib.nDigits u) u 0 h d:=by
 have m:=Lib.nDigits_le20 u a;have i:Holds (λ(b:UInt8)=>Value.int .u8 (b.toNat:Int)) w b 0 (Array.replicate (Lib.nDigits u) (0:UInt8)):=λj f=>by
  rw [Array.size_replicate]at f;refine⟨?_,c.frozen _⟩;rw [getElem!_pos _ j (by rw [Array.size_replicate];exact f),Array.getElem_replicate];refine c.cell ?_;rw [Nat.zero_add,List.getElem?_replicate,if_pos (by omega)];rfl
 have q:=Any.internal_strconv_formatBase10 shLays285 b 0 24 u (Array.replicate (Lib.nDigits u) 0) w i (by rw [Array.size_replicate];exact Lib.lt_pow_nDigits u) a (by rw [Array.size_replicate];omega);rw [Array.size_replicate]at q;exact q
theorem Fbnw (n:List Int) (o A:Int) (v0:Value) (r:List Int) (h:Fbn n o A=some r) (O S:List Nat) (w:World) (H:Hd O w w S [.own (Rp.int .u8) v0 5 n,.fz (.at 3 0 ((Fl.arr 20 (Fl.int .u64)).f yD))]):
  Calls Tryz.prog 217 ([v0,.int .u64 o,.int .i64 A]:List Value).toArray w λe w'=> ∃u,e= .returned u/\Hd O w w' S [.own (Rp.int .u8) u 5 r]:=by
 unfold Fbn at h;split at h
 ·rename_i c;obtain⟨rfl,j,c2,c3⟩:=c;have D:=oI h;subst D;obtain⟨u,rfl⟩: ∃u:Nat,o=u:=⟨o.toNat,by omega⟩;rw [Int.toNat_natCast];have d:u<18446744073709551616:=by omega
  have B:=Lib.nDigits_le20 u d;have a:(nums (Lib.decDigits u)).length=Lib.nDigits u:=by rw [aEl,Lib.decDigits_length]
  have C:app' 1 n (nums (Lib.decDigits u))=some (n++nums (Lib.decDigits u)):=by
   unfold app';rw [if_pos ⟨by rw [maxLen_eq,a];omega,by rw [a];omega⟩]
  refine rE 36 Tryz.func217 rfl rfl rfl ?_;refine xB λ_ p=>?_
  refine zD ?_;refine aF rfl rfl (yT rfl) ?_;refine(yL (zG (p _ _ ?_)));refine xB λ_ _=>?_
  refine xB λ_ q=>?_
  refine zD ?_;refine aF rfl rfl (aA (v:= .int _ _) rfl) ?_;refine aF rfl rfl (aGl rfl rfl) ?_;refine(yL (zG (q _ _ ?_)))
  first |refine WP_if rfl (λj=>?_) (λj=>?_)|refine aDg rfl (λj=>?_) (λj=>?_)
  ·refine xB λ_ s=>?_
   refine xB λ_ t=>?_
   refine zD ?_;refine aF rfl rfl (aA (v:= .int _ _) rfl) ?_;refine aF rfl rfl (uU rfl rfl) ?_;refine(yL (zG (t _ _ ?_)))
   first |refine WP_if rfl (λc2=>?_) (λc2=>?_)|refine aDg rfl (λc2=>?_) (λc2=>?_)
   ·refine xB λF g=>?_
    refine zD ?_;refine aF rfl rfl (aA (v:=v0) rfl) ?_;refine aF rfl rfl (aA (v:= .int _ _) rfl) ?_;refine aF rfl rfl (dG xu250 xu3 rfl (wrap_i64 (by omega) (by omega))) ?_;refine xC rfl rfl (yR xen257 rfl) (small_c (by omega) w) ?_;rintro _ _ ⟨rfl,rfl⟩;refine⟨_,rfl,?_⟩;refine nZ rfl rfl (Lx_appstr H (i:=0) rfl xu58 xu9 xz5 rfl rfl C) ?_;rintro m _ H;refine aF rfl rfl (yT (v:=m) rfl) ?_;refine(yL (zG (g _ _ ?_)));refine(zH (zF (zF (aJm (v1:=m) rfl rfl ?_))));exact⟨_,rfl,H.U [0] (by decide)⟩
   ·refine(yE (zG (s _ _ ?_)));refine xB λF g=>?_
    refine zD ?_;refine nZ rfl rfl (zZ xzero316 H) ?_;rintro _ _ ⟨_,rfl,H⟩;refine(yL (zG (g _ _ ?_)));refine xB λ_ x=>?_
    refine zD ?_;refine aF rfl rfl (aA (v:= .int _ _) rfl) ?_;have I:=H;refine xC rfl rfl (yR xen258 rfl) (Fdcw (u:Int) _ (aMd (by omega) d) _ _ _ (H.W [] [1] (by decide) rfl)) ?_;rintro _ _ ⟨rfl,G⟩;have H:=I.step (G.only:Only [] _ _);refine⟨_,rfl,?_⟩;refine aF rfl rfl (yT (v:= .int _ _) rfl) ?_;refine(yL (zG (x _ _ ?_)));refine xB λ_ y=>?_
    refine zD ?_;refine aF rfl rfl (aA (v:= .int _ _) rfl) ?_;refine aF rfl rfl (aFl xu316 xsz5 rfl rfl (show Lib.nDigits u<=24 by omega) (by decide)) ?_;refine aF rfl rfl (aA (v:= .int _ _) rfl) ?_;refine xC rfl rfl (yR xen259 rfl) (fmt_c (H.V (i:=2) rfl) (by omega) d) ?_;rintro _ _ ⟨rfl,k,_,J,rfl,h⟩;have H:=H.wr (i:=2) rfl (Wr.put (H.V (i:=2) rfl) J k);refine⟨_,rfl,?_⟩;refine(yL (zG (y _ _ ?_)));refine xB λ_ z=>?_
    refine zD ?_;refine aF rfl rfl (aA (v:=v0) rfl) ?_;refine aF rfl rfl (aA (v:= .int _ _) rfl) ?_;refine aF rfl rfl (aFl xu316 xsz5 rfl rfl (show Lib.nDigits u<=24 by omega) (by decide)) ?_;refine nZ rfl rfl (wI H (i:=0) rfl xu58 xel5 rfl rfl ⟨_,aAi.2 rfl,by rw [a];exact Blk.slo (H.V (i:=2) rfl) (aVo h (by omega)) (by show(List.map _ _).length=_;rw [List.length_map,a];exact(Nat.mul_one _).symm) (by omega) (by rw [maxLen_eq];omega)⟩ C) ?_;rintro m _ H;refine aF rfl rfl (yT (v:=m) rfl) ?_;refine(yL (zG (z _ _ ?_)));refine(zH (zF (aJm (v1:=m) rfl rfl ?_)));exact⟨_,rfl,H.U [0] (by decide)⟩
  ·exact absurd rfl j
 ·cases h
open Go.Shelf Go.Proofs

theorem Fgkw (b:Int) (r:Str) (a:Fgk b=some r) (O S:List Nat) (w:World) (H:Hd O w w S []):
  Calls Tryz.prog 243 ([.int .i64 b]:List Value).toArray w λe w'=>e= .returned (.string (bs r))/\Hd O w w' S []:=by
 unfold Fgk at a;split at a
 ·rename_i c;obtain⟨n,rfl⟩:=Int.eq_ofNat_of_zero_le c.1;have d:=oI a;subst d;exact(Any.strconv_Itoa_small {aTz with} n (by omega) w).mono λe w' ⟨f,g⟩=>⟨f,by subst g;exact H⟩
 ·cases a

theorem aJz {w w':World}(h:Below w.heap.size w w'):Only [] w w':=Only.of_below h
theorem Fguw (a:Str) (r:Int×Bool) (b:Fgu a=some r) (O S:List Nat) (w:World) (H:Hd O w w S [.fz (.gi 4)]):
  Calls Tryz.prog 242 ([.string (bs a)]:List Value).toArray w λe w'=> ∃u,e= .returned (.tuple #[.int .i64 r.1,u])/\Hd O w w' S [.fz (.ic u r.2)]:=by
 obtain⟨-,-,ev,h,j⟩:frees O [Th.fz (.gi 4)] 4/\4<w.heap.size/\ ∃v,Cells w ⟨4,0,none⟩ [v]/\(v= .nilIface\/ ∃T x,v= .iface T x):=H.V (i:=0) rfl;have k:w.cell? ⟨4,0,none⟩=some ev:=h.get (i:=0) rfl;unfold Fgu at b;split at b
 ·rename_i c;have g:(bs a).size<=18:=by rw [qW];exact c
  have hd:(bs a).data.toList=a:=by simp [bs]
  split at b
  ·rename_i n d;have f:=oI b;subst f;refine(Any.strconv_Atoi {aLa with} (bs a) n g (by rw [hd];exact d) w).mono ?_;rintro e w' ⟨rfl,t,m⟩;have H:=H.step (w':=w') (aJz (by rw [m];exact Lib.bytesWorld_below _ _ _));have H:=H.fz (.ic .nilIface true) rfl;exact⟨_,rfl,H.U [1] (by decide)⟩
  ·rename_i d;have f:=oI b;subst f;refine(Any.strconv_Atoi_err aLa (bs a) g (by rw [hd];exact d) ev w k j).mono ?_;rintro e w' ⟨B,rfl,-,-,o⟩;have H:=H.step (aJz o);have H:=H.fz (.ic (.iface (ren.t 168) (.pointer (some ⟨B,0,none⟩))) false) ⟨_,_,rfl⟩;exact⟨_,rfl,H.U [1] (by decide)⟩
 ·cases b
theorem Fk3 {b:Str}{c r:Int}(e:Fj7 b c=some r){args:Array Operand}{d:Option Nat}{a:Array TypeId}{ty:TypeId}{pos:String}{af:Array Edge}{g:Option (Nat×Bool)}{ρ:Env}{w:World}
  (_:args.toList.map (ev ρ)=[.string (bs b),.int .u8 c]):Do Tryz.prog ⟨d,.call {callee:= .value (.func 291),args:=args,argTypes:=a},ty,pos,af,g⟩ ρ w (.int .i64 r) w:=by cases e
end Go.Proofs.YtbjofgmdhbiekaaGreatDoor.E
