/- Laws that the claim stands on; no condition beyond those stated. -/
import Derived.Test.YtnccbhdmemheeaaGreatDoorHW
import Derived.Test.YtnccbhdmemheeaaGreatDoorPLb
import Derived.Lib.AppendIntMem
import Derived.Lib.ItoaMem
namespace Go.Lf
open Go.RowKit Go.OB Go.Sort
theorem aNu {u:Nat} (a:1<=u) (d:u<18446744073709551616):Fd3 (u:Int)=some ((Lib.nDigits u:Nat):Int):=by
 have q:=Lib.numDigits_eq u a d;have j:Lib.bitLen u<=64:=Lib.bitLen_le u 64 (Nat.le_refl _) (by omega);unfold Fd3 Ffa;rw [if_pos (by omega),zC,Int.toNat_natCast];generalize Lib.bitLen u=b at *
 have e:Fcf (b:Int)=some ((Lib.l10 b:Nat):Int):=by
  unfold Fcf aIt;simp only [zI];rw [wrap_i64 (by omega) (by omega),if_pos (by decide),zC]
  congr 1
 rw [e,zC];have f:=q.2;have i:at' zX.l ((Lib.l10 b:Nat):Int)=some ((10^Lib.l10 b:Nat):Int):=by
  generalize Lib.l10 b=k at f;have:=(by decide+kernel: ∀k:Fin 20,at' zX.l ((k.1:Nat):Int)=some ((10^k.1:Nat):Int)) ⟨k,by omega⟩;exact this
 rw [i,zC];simp only [zI];unfold Fd9
 by_cases c:10^Lib.l10 b<=u
 ·rw [dT (show((10^Lib.l10 b:Nat):Int)<=(u:Int)from Int.ofNat_le.2 c),zU,zC,wrap_i64 (by omega) (by omega)];rw [if_pos c]at q
  congr 1;omega
 ·rw [qD (λh=>c (Int.ofNat_le.1 h)),zQ,zC,wrap_i64 (by omega) (by omega)];rw [if_neg c]at q
  congr 1;omega
theorem aGk {P:Program}{w:World}{ρ:Env}{t e ty:TypeId}{x hi:Operand}{b n h:Nat}{d:Option Nat}{pos:String}{af:Array Edge}{g:Option (Nat×Bool)}(a:P.underlying t=some (.array n e))(j:Sz P e 1)(k:ev ρ x= .pointer (some ⟨b,0,none⟩))(hh:ev ρ hi= .int .i64 (h:Int))(o:h<=n)(_:0<n):
    Do P ⟨d,.slice t x none (some hi) none,ty,pos,af,g⟩ ρ w (.slice (some ⟨b,0,none⟩) h n) w:=by
 have i:P.elem t=e:=by simp [Program.elem,a]
 have c:P.arrayLen t=n:=by simp [Program.arrayLen,a]
 have f:P.underlying t=some (.array (P.arrayLen t) (P.elem t)):=by rw [i,c];exact a
 unfold Do;simp [execOp,k,hh,run_sliceAt_array_h w t ⟨b,0,none⟩ f .i64 (h:Int) (by omega) (by rw [c];omega),i,c,kU j,slicedAt,Addr.add_none]
def encB (b:UInt8):Value:= .int .u8 (b.toNat:Int)
theorem Wr.put {w:World}{b:Nat}{cs:List Value}{T:TypeId} (a:Blk w b cs T) (d:Array UInt8) (k:Nat):Wr w ((putRow encB w b 0 d).drewN k) b (putCells encB 0 d cs.toArray).toList T:=by
 have f:=a.lt;unfold Blk at a;refine⟨?_,⟨rfl,rfl,rfl,?_,λi _ h=>?_⟩,?_⟩;unfold Blk;rw [World.heap_drewN];simp [putRow,mapBlock,Array.getElem?_modify,a,onCells];rw [World.heap_drewN];simp;rw [World.heap_drewN];have c:b≠i:=λe=>h (by simp [e]);simp [putRow,mapBlock,Array.getElem?_modify,c];rw [World.heap_drewN];simp
theorem aWm {u c:Nat}{a:Array UInt8} (h:Lib.FmtInv (Lib.nDigits u) u 0 c a) (f:Lib.nDigits u<=24):
  ((putCells encB 0 a (List.replicate 24 (Value.int .u8 0)).toArray).toList.drop 0).take (Lib.nDigits u*1)=ints .u8 (nums (Lib.decDigits u)):=by
 have d:a.size=Lib.nDigits u:=h.size;have hd:=Lib.decDigits_length u;apply List.ext_getElem?;intro j;rw [List.drop_zero,Nat.mul_one]
 by_cases b:j<Lib.nDigits u
 ·rw [List.getElem?_take,if_pos b];have q:=Lib.row_is_numeral h j (by omega);have e:(ints .u8 (nums (Lib.decDigits u)))[j]? =some (encB a[j]!):=by
   rw [<-q];simp [ints,nums,encB,hd,b]
  rw [e];simp only [putCells,Array.getElem?_toList,Array.getElem?_mapIdx];have:j<24:=by omega
  simp [this,d,b]
 ·rw [List.getElem?_eq_none (by rw [List.length_take];omega),List.getElem?_eq_none (by simp [ints,nums];omega)]
end Go.Lf
namespace Go.Proofs.YtnccbhdmemheeaaGreatDoor.E
open Go.RowKit Go.OB Go.Lf Go.Sort
theorem xu3:Tryz.prog.underlying 3=some (.int .i64):=Tryz.underlying3
theorem xu9:Tryz.prog.underlying 9=some .string:=Tryz.underlying9
theorem xu87:Tryz.prog.underlying 87=some (.slice 5):=Tryz.underlying87
theorem xu241:Tryz.prog.underlying 241=some (.int .u64):=Tryz.underlying241
theorem xu266:Tryz.prog.underlying 266=some (.array 24 5):=Tryz.underlying266
theorem xsz5:Sz Tryz.prog 5 1:=by unfold Sz;kernel_rfl
theorem xel5:El Tryz.prog 5 1 1 ([.int .u8 0]):=⟨by kernel_rfl,by kernel_rfl,by kernel_rfl,by decide,by decide⟩
theorem xz5:Z8 Tryz.prog 5:=by unfold Z8;kernel_rfl
theorem xzero266:Go.OB.Zero Tryz.prog 266 (List.replicate 24 (.int .u8 0)):=by unfold Go.OB.Zero;kernel_rfl
theorem xen181:Go.OB.Enters Tryz.prog 181:=⟨_,Tryz.func181,rfl,by kernel_rfl⟩
theorem xen182:Go.OB.Enters Tryz.prog 182:=⟨_,Tryz.func182,rfl,by kernel_rfl⟩
theorem xen183:Go.OB.Enters Tryz.prog 183:=⟨_,Tryz.func183,rfl,by kernel_rfl⟩
theorem small_c {u:Nat}(a:u<100)(w:World):Calls Tryz.prog 181 #[.int .i64 (u:Int)] w λe w'=>e= .returned (.string (bs (Lib.decDigits u)))/\w'=w:=Any.internal_strconv_small shLays283 u a w
theorem fmt_c {w:World}{b u:Nat}(c:Blk w b (List.replicate 24 (.int .u8 0)) 266)(_:1<=u)(a:u<18446744073709551616):
  Calls Tryz.prog 183 #[.slice (some ⟨b,0,none⟩) (Lib.nDigits u) 24,.int .u64 (u:Int)] w λe w'=>e= .returned (.tuple #[])/\ ∃k i d,w'=(putRow encB w b 0 d).drewN k/\Lib.FmtInv (Lib.nDigits u) u 0 i d:=by
 have n:=Lib.nDigits_le20 u a;have l:Holds (λ(b:UInt8)=>Value.int .u8 (b.toNat:Int)) w b 0 (Array.replicate (Lib.nDigits u) (0:UInt8)):=λj f=>by
  rw [Array.size_replicate]at f;refine⟨?_,c.frozen _⟩;rw [getElem!_pos _ j (by rw [Array.size_replicate];exact f),Array.getElem_replicate];refine c.cell ?_;rw [Nat.zero_add,List.getElem?_replicate,if_pos (by omega)];rfl
 have q:=Any.internal_strconv_formatBase10 shLays285 b 0 24 u (Array.replicate (Lib.nDigits u) 0) w l (by rw [Array.size_replicate];exact Lib.lt_pow_nDigits u) a (by rw [Array.size_replicate];omega);rw [Array.size_replicate]at q;exact q
theorem Fdow (o:List Int) (p B:Int) (v0:Value) (r:List Int) (j:Fdo o p B=some r) (O S:List Nat) (w:World) (H:Hd O w w S [.own (Rp.int .u8) v0 5 o,.fz (.at 2 0 ((Fl.arr 20 (Fl.int .u64)).f zX))]):
  Calls Tryz.prog 168 ([v0,.int .u64 p,.int .i64 B]:List Value).toArray w λe w'=> ∃u,e= .returned u/\Hd O w w' S [.own (Rp.int .u8) u 5 r]:=by
 unfold Fdo at j;split at j
 ·rename_i c;obtain⟨rfl,l,c2,c3⟩:=c;have E:=oI j;subst E;obtain⟨u,rfl⟩: ∃u:Nat,p=u:=⟨p.toNat,by omega⟩;rw [Int.toNat_natCast];have d:u<18446744073709551616:=by omega
  have C:=Lib.nDigits_le20 u d;have a:(nums (Lib.decDigits u)).length=Lib.nDigits u:=by rw [uY,Lib.decDigits_length]
  have D:app' 1 o (nums (Lib.decDigits u))=some (o++nums (Lib.decDigits u)):=by
   unfold app';rw [if_pos ⟨by rw [maxLen_eq,a];omega,by rw [a];omega⟩]
  refine tJ 36 Tryz.func168 rfl rfl rfl ?_;refine cZ λ_ q=>?_
  refine zD ?_;refine aQ rfl rfl (yL rfl) ?_;refine(yP (zF (q _ _ ?_)));refine cZ λ_ _=>?_
  refine cZ λ_ s=>?_
  refine zD ?_;refine aQ rfl rfl (mW (v:= .int _ _) rfl) ?_;refine aQ rfl rfl (aGv rfl rfl) ?_;refine(yP (zF (s _ _ ?_)))
  first |refine WP_if rfl (λl=>?_) (λl=>?_)|refine aQm rfl (λl=>?_) (λl=>?_)
  ·refine cZ λ_ t=>?_
   refine cZ λ_ x=>?_
   refine zD ?_;refine aQ rfl rfl (mW (v:= .int _ _) rfl) ?_;refine aQ rfl rfl (aQz rfl rfl) ?_;refine(yP (zF (x _ _ ?_)))
   first |refine WP_if rfl (λc2=>?_) (λc2=>?_)|refine aQm rfl (λc2=>?_) (λc2=>?_)
   ·refine cZ λI h=>?_
    refine zD ?_;refine aQ rfl rfl (mW (v:=v0) rfl) ?_;refine aQ rfl rfl (mW (v:= .int _ _) rfl) ?_;refine aQ rfl rfl (pI xu241 xu3 rfl (wrap_i64 (by omega) (by omega))) ?_;refine xK rfl rfl (yE xen181 rfl) (small_c (by omega) w) ?_;rintro _ _ ⟨rfl,rfl⟩;refine⟨_,rfl,?_⟩;refine aDy rfl rfl (aHb H (i:=0) rfl xu87 xu9 xz5 rfl rfl D) ?_;rintro n _ H;refine aQ rfl rfl (yL (v:=n) rfl) ?_;refine(yP (zF (h _ _ ?_)));refine(zH (zG (zG (aLc (v1:=n) rfl rfl ?_))));exact⟨_,rfl,H.U [0] (by decide)⟩
   ·refine(yF (zF (t _ _ ?_)));refine cZ λI h=>?_
    refine zD ?_;refine aDy rfl rfl (yK xzero266 H) ?_;rintro _ _ ⟨_,rfl,H⟩;refine(yP (zF (h _ _ ?_)));refine cZ λ_ y=>?_
    refine zD ?_;refine aQ rfl rfl (mW (v:= .int _ _) rfl) ?_;have J:=H;refine xK rfl rfl (yE xen182 rfl) (Fd3w (u:Int) _ (aNu (by omega) d) _ _ _ (H.W [] [1] (by decide) rfl)) ?_;rintro _ _ ⟨rfl,G⟩;have H:=J.step (G.only:Only [] _ _);refine⟨_,rfl,?_⟩;refine aQ rfl rfl (yL (v:= .int _ _) rfl) ?_;refine(yP (zF (y _ _ ?_)));refine cZ λ_ z=>?_
    refine zD ?_;refine aQ rfl rfl (mW (v:= .int _ _) rfl) ?_;refine aQ rfl rfl (aGk xu266 xsz5 rfl rfl (show Lib.nDigits u<=24 by omega) (by decide)) ?_;refine aQ rfl rfl (mW (v:= .int _ _) rfl) ?_;refine xK rfl rfl (yE xen183 rfl) (fmt_c (H.V (i:=2) rfl) (by omega) d) ?_;rintro _ _ ⟨rfl,k,_,K,rfl,j⟩;have H:=H.wr (i:=2) rfl (Wr.put (H.V (i:=2) rfl) K k);refine⟨_,rfl,?_⟩;refine(yP (zF (z _ _ ?_)));refine cZ λ_ A=>?_
    refine zD ?_;refine aQ rfl rfl (mW (v:=v0) rfl) ?_;refine aQ rfl rfl (mW (v:= .int _ _) rfl) ?_;refine aQ rfl rfl (aGk xu266 xsz5 rfl rfl (show Lib.nDigits u<=24 by omega) (by decide)) ?_;refine aDy rfl rfl (bQ H (i:=0) rfl xu87 xel5 rfl rfl ⟨_,uT.2 rfl,by rw [a];exact Blk.slo (H.V (i:=2) rfl) (aWm j (by omega)) (by show(List.map _ _).length=_;rw [List.length_map,a];exact(Nat.mul_one _).symm) (by omega) (by rw [maxLen_eq];omega)⟩ D) ?_;rintro n _ H;refine aQ rfl rfl (yL (v:=n) rfl) ?_;refine(yP (zF (A _ _ ?_)));refine(zH (zG (aLc (v1:=n) rfl rfl ?_)));exact⟨_,rfl,H.U [0] (by decide)⟩
  ·exact absurd rfl l
 ·cases j
end Go.Proofs.YtnccbhdmemheeaaGreatDoor.E
namespace Go.Lf
open Go.RowKit Go.OB Go.Sort Go.Shelf Go.Proofs
theorem hd_free {O S:List Nat}{a w w':World}{l:List Th}{i:Nat}{it:Th}(H:Hd O a w S l)(hi:l[i]? =some it)(b:Only it.blocks w w'):Hd O a w' S []:=by
 have h:=H.turn (it':= .fz ⟨λ_ _=>True,λ_ _=>trivial⟩) hi b (λ_=>trivial) (by simp [Th.blocks]) (by simp [Th.blocks]);exact h.U [] (by decide)
section
variable {P:Program}{ρ:Ren}
set_option maxHeartbeats 1000000 in
set_option maxRecDepth 100000 in
theorem aSu (L:Lays.n169 P ρ) (X:Builder.Extra P ρ) (b g cap:Nat) (p:Value) (a:Array Value) (l:List UInt8) (w:World) (k:l≠[]) (d:w.heap[b]? =some (.cells #[p,.slice (some ⟨g,0,none⟩) l.length cap] (ρ.t 72) (0,0))) (o:w.heap[g]? =some (.cells a (ρ.t 5) (0,0))) (q:l.length<=cap) (h:cap<=maxLen) (r:a.size=cap*1)
  (c: ∀j x,l[j]? =some x->w.cell? ⟨g,0+j,none⟩=some (.int .u8 x.toNat)):
  Calls P (ρ.f 169) #[.pointer (some ⟨b,0,none⟩)] w λe w'=>e= .returned (.string ⟨l.toArray⟩)/\w'=w.drew.freeze ⟨g,0,none⟩ l.length:=by
 have s:l.length≠0:=by simpa using k
 have C:w.drew.cell? ⟨b,1,none⟩=some (.slice (some ⟨g,0,none⟩) l.length cap):=by
  have:w.drew.heap[b]? =some (.cells #[p,.slice (some ⟨g,0,none⟩) l.length cap] (ρ.t 72) (0,0)):=d;rw [Lib.cell_of_heap this];rfl
 have u:(Builtin.unsafeSliceData_ #[(ρ.t 37)] (ρ.t 127) #[.slice (some ⟨g,0,none⟩) l.length cap]).run P w.drew= .ok (.pointer (some ⟨g,0,none⟩)) w.drew:=
  Lib.run_unsafeSliceData_row _ _ _ _ _ _ (by omega)
 have v:(Builtin.unsafeString_ #[(ρ.t 127),(ρ.t 3)] (ρ.t 9) #[.pointer (some ⟨g,0,none⟩),.int .i64 l.length]).run P w.drew= .ok (.string ⟨l.toArray⟩) (w.drew.freeze ⟨g,0,none⟩ l.length):=by
  refine Lib.run_unsafeString_row w.drew (ρ.t 127) (ρ.t 3) (ρ.t 9) (ρ.t 5) L.t127 X.cellsByte g a.size (by have i:w.drew.heap[g]? =some (.cells a (ρ.t 5) (0,0)):=o;simp [World.shape?,i]) l k (by omega) (by unfold maxLen at h;omega) ?_;intro j x y;rw [Addr.add_none];exact c j x y
 have mixed:=L.mixed;have t72:=L.t72;have a72:=L.a72;have z72:=L.z72;have v72:=L.v72;have z:=run_underlying L.t72;have t70:=L.t70;have a70:=L.a70;have z70:=L.z70;have v70:=L.v70;have A:=run_underlying L.t70;have t37:=L.t37;have a37:=L.a37;have z37:=L.z37;have v37:=L.v37;have B:=run_underlying L.t37;have t127:=L.t127;have a127:=L.a127;have z127:=L.z127;have v127:=L.v127;have n:=run_underlying L.t127;have t3:=L.t3;have a3:=L.a3;have z3:=L.z3;have v3:=L.v3;have u3:=run_underlying L.t3;have t9:=L.t9;have a9:=L.a9;have z9:=L.z9;have v9:=L.v9;have u9:=run_underlying L.t9;have t5:=X.t5;have a5:=X.a5;have z5:=X.z5;have v5:=X.v5;have u5:=run_underlying X.t5
 go_enter L.f169,Body.n169_ntmps ρ
 go_wp2
 go_region_o
 all_goals (go_wp2;go_ret;exact⟨rfl,rfl⟩)
set_option maxHeartbeats 2000000 in
set_option maxRecDepth 100000 in
theorem aTs (L:Lays.n169 P ρ) (X:Builder.Extra P ρ) (b:Nat) (p:Value) (w:World) (a:w.heap[b]? =some (.cells #[p,.slice none 0 0] (ρ.t 72) (0,0))):
  Calls P (ρ.f 169) #[.pointer (some ⟨b,0,none⟩)] w λe w'=>e= .returned (.string ⟨#[]⟩)/\fO w w':=
 Any.Builder_String_nil L X w.heap.size b p w a
theorem aOa (L:Lays.n169 P ρ) (X:Builder.Extra P ρ) (b g cap:Nat) (p:Value) (a:Array Value) (w:World) (c:w.heap[b]? =some (.cells #[p,.slice (some ⟨g,0,none⟩) 0 cap] (ρ.t 72) (0,0))) (h:w.heap[g]? =some (.cells a (ρ.t 5) (0,0))):
    Calls P (ρ.f 169) #[.pointer (some ⟨b,0,none⟩)] w λe w'=>e= .returned (.string ⟨#[]⟩)/\fO w w':=by
 by_cases d:cap=0;subst d;exact(Any.Builder_String_noroom L X w.heap.size b g p a w (Nat.le_refl _) c h);exact(Any.Builder_String_room L X w.heap.size b g cap p w d c)
end
theorem Wr.cell0 {w:World}{b:Nat}{c v:Value}{cs:List Value}{T:TypeId} (h:Blk w b (c::cs) T):Wr w (w.setCell ⟨b,0,none⟩ v) b (v::cs) T:=by
 unfold Blk at h;refine⟨?_,⟨rfl,rfl,rfl,by simp [World.setCell],λk _ a=>?_⟩,by simp [World.setCell]⟩;unfold Blk;simp [World.setCell,Array.getElem?_modify,h];have:b≠k:=λe=>a (by simp [e]);simp [World.setCell,Array.getElem?_modify,this]
theorem aUi {w:World}{g n:Nat}:Only [g] w (w.drew.freeze ⟨g,0,none⟩ n):=by
 have a:Only [g] w w.drew:=(Only.of_below ((Below.refl w.heap.size w).drew)).mono (by simp);refine a.trans ?_;unfold World.freeze;split;exact Only.refl _ _;refine⟨rfl,rfl,rfl,by simp,λk _ b=>?_⟩;have:g≠k:=λe=>b (by simp [e]);simp [Array.getElem?_modify,this]
end Go.Lf
namespace Go.Proofs.YtnccbhdmemheeaaGreatDoor.E
open Go.RowKit Go.OB Go.Lf Go.Sort
theorem Fi9w (c:List Int) (a:Nat) (v2 v3:Value) (r:List Int) (h:Fi9 c=some r) (O S:List Nat) (w:World) (H:Hd O w w S [.own (Rp.int .u8) v3 5 c,.blk a [v2,v3] 129,.fz (.oq v2 a)]):
  Calls Tryz.prog 88 ([.pointer (some ⟨a,0,none⟩)]:List Value).toArray w λe w'=> ∃d u2,e= .returned (.tuple #[])/\Hd O w w' S [.fz (.oq d a),.own (Rp.int .u8) u2 5 r,.blk a [d,u2] 129]:=by
 have j:=oI h;subst j;have b:Blk w a [v2,v3] 129:=H.V (i:=1) rfl;have k:v2= .pointer none\/v2= .pointer (some ⟨a,0,none⟩):=H.V (i:=2) rfl;have f:w.cell? ⟨a,0,none⟩=some v2:=b.cell rfl;rcases k with rfl|rfl
 ·refine(Any.Builder_copyCheck_fresh aPj shX.toX72 a w f (by have b:=b;unfold Blk at b;simp [World.shape?,b];rfl) (b.frozen _)).mono ?_;rintro e w' ⟨rfl,rfl⟩;refine⟨.pointer (some ⟨a,0,none⟩),v3,rfl,?_⟩;have H:=H.wr (i:=1) rfl (Wr.cell0 (v:= .pointer (some ⟨a,0,none⟩)) b);have H:=H.fz (.oq (.pointer (some ⟨a,0,none⟩)) a) (.inr rfl);exact H.U [3,0,1] (by decide)
 ·refine(Any.Builder_copyCheck_used aPj shX.toX72 a w f).mono ?_;rintro e w' ⟨rfl,rfl⟩;exact⟨_,v3,rfl,H.U [2,0,1] (by decide)⟩
theorem Ffww (s:List Int) (a:Nat) (v2 v3:Value) (r:Str) (b:Ffw s=some r) (O S:List Nat) (w:World) (H:Hd O w w S [.own (Rp.int .u8) v3 5 s,.blk a [v2,v3] 129,.fz (.oq v2 a)]):
  Calls Tryz.prog 53 ([.pointer (some ⟨a,0,none⟩)]:List Value).toArray w λe w'=>e= .returned (.string (bs r))/\Hd O w w' S []:=by
 unfold Ffw at b;split at b
 rotate_left
 ·cases b
 rename_i t;have u:=oI b;rw [u]at t;subst t;clear u b;have c:Blk w a [v2,v3] 129:=H.V (i:=1) rfl;unfold Blk at c;obtain⟨_,h,v⟩:=H.V (i:=0) rfl;have h:=uT.1 h;subst h;have k:=uY r;rcases v.2 with ⟨rfl,_⟩|⟨g,cap,d,rfl,_,f,_,l,n,_⟩
 ·have p:r=[]:=List.eq_nil_of_length_eq_zero (by omega);subst p;refine(aTs aHr shX a v2 w c).mono ?_;rintro e w' ⟨rfl,q⟩;exact⟨rfl,(H.Z q).U [] (by decide)⟩
 ·by_cases y:r=[]
  ·subst y;refine(aOa aHr shX a g cap v2 d w c f).mono ?_;rintro e w' ⟨rfl,q⟩;exact⟨rfl,(H.Z q).U [] (by decide)⟩
  ·rw [k]at c;refine(aSu aHr shX a g cap v2 d r w y c f (by omega) l n (λj x p=>?_)).mono ?_
   ·have z:=v.cells (g:=g) rfl j (.int .u8 (x.toNat:Int)) (by simp [ints,nums,p]);rw [Addr.add_none]at z;exact z
   ·rintro e w' ⟨rfl,rfl⟩;exact⟨rfl,hd_free H (i:=0) rfl (aUi.mono (by simp [Th.blocks,ob,jC]))⟩
theorem Fh0w (f:List Str) (p:Str) (v0:Value) (r:Str) (t:Fh0 f p=some r) (O S:List Nat) (w:World) (H:Hd O w w S [.fz (.sl Rp.str v0 f)]):
  Calls Tryz.prog 128 ([v0,.string (bs p)]:List Value).toArray w λe w'=>e= .returned (.string (bs r))/\Hd O w w' S []:=by
 unfold Fh0 at t;split at t
 ·rename_i c;obtain⟨D,c2⟩:=c;have E:=oI t;subst E;obtain⟨_,F,B,G⟩:=H.V (i:=0) rfl;have hm: ∀l:List Str,(l.map bs).map (λx=>x.data.toList)=l:=λl=>by
   rw [List.map_map]
   conv=>rhs;rw [<-List.map_id l]
   rfl
  rcases Nat.eq_zero_or_pos f.length with u|u
  ·have:f=[]:=List.eq_nil_of_length_eq_zero u;subst this;obtain⟨a,c,rfl⟩:=B.shape;refine(Any.strings_Join_none aOo shX a c (bs p) w).mono ?_;rintro e w' ⟨rfl,rfl⟩;exact⟨rfl,H.U [] (by decide)⟩
  ·obtain⟨b,o,cap,rfl,k,-,I⟩:=B.some (by omega);have v:=G u b rfl;have q:=Any.strings_Join aOo shX b o cap (f.map bs) (bs p) w (λj x C=>?_) v.2 (by rw [List.length_map];exact D) (by rw [List.length_map];exact k) (by rw [hm];exact c2)
   ·rw [List.length_map,hm]at q;refine q.mono ?_;rintro e w' ⟨rfl,J⟩;exact⟨rfl,(H.Z J).U [] (by decide)⟩
   ·have n: ∀{l:List Str}{cs:List Value},rows Rp.str (frees O [.fz (.sl Rp.str (.slice (some ⟨b,o,none⟩) f.length cap) f)]) w cs l->cs=l.map λs=> .string (bs s):=by
     intro l
     induction l with
     |nil=>intro cs h;exact h
     |cons y l K=>rintro cs ⟨c',_,rfl,z,L⟩;have z:c'=[.string (bs y)]:=z;rw [z,K L];rfl
    have A:=n F;subst A;rw [List.getElem?_map,Option.map_eq_some_iff]at C;obtain⟨y,M,rfl⟩:=C;have:=I j (.string (bs y)) (by rw [List.getElem?_map,M];rfl);rw [Addr.add_none]at this;exact this
 ·cases t

theorem Fekw (b:Int) (r:Str) (a:Fek b=some r) (O S:List Nat) (w:World) (H:Hd O w w S []):
  Calls Tryz.prog 89 ([.int .i64 b]:List Value).toArray w λe w'=>e= .returned (.string (bs r))/\Hd O w w' S []:=by
 unfold Fek at a;split at a
 ·rename_i c;obtain⟨n,rfl⟩:=Int.eq_ofNat_of_zero_le c.1;have d:=oI a;subst d;exact(Any.strconv_Itoa_small {aXd with} n (by omega) w).mono λe w' ⟨f,h⟩=>⟨f,by subst h;exact H⟩
 ·cases a

theorem aLm {w w':World}(h:Below w.heap.size w w'):Only [] w w':=Only.of_below h
theorem Fhgw (a:Str) (r:Int×Bool) (b:Fhg a=some r) (O S:List Nat) (w:World) (H:Hd O w w S [.fz (.gi 3)]):
  Calls Tryz.prog 157 ([.string (bs a)]:List Value).toArray w λe w'=> ∃u,e= .returned (.tuple #[.int .i64 r.1,u])/\Hd O w w' S [.fz (.ic u r.2)]:=by
 obtain⟨-,-,ev,j,k⟩:frees O [Th.fz (.gi 3)] 3/\3<w.heap.size/\ ∃v,Cells w ⟨3,0,none⟩ [v]/\(v= .nilIface\/ ∃T x,v= .iface T x):=H.V (i:=0) rfl;have l:w.cell? ⟨3,0,none⟩=some ev:=j.get (i:=0) rfl;unfold Fhg at b;split at b
 ·rename_i c;have h:(bs a).size<=18:=by rw [rF];exact c
  have hd:(bs a).data.toList=a:=by simp [bs]
  split at b
  ·rename_i n d;have f:=oI b;subst f;refine(Any.strconv_Atoi {aNo with} (bs a) n h (by rw [hd];exact d) w).mono ?_;rintro e w' ⟨rfl,t,o⟩;have H:=H.step (w':=w') (aLm (by rw [o];exact Lib.bytesWorld_below _ _ _));have H:=H.fz (.ic .nilIface true) rfl;exact⟨_,rfl,H.U [1] (by decide)⟩
  ·rename_i d;have f:=oI b;subst f;refine(Any.strconv_Atoi_err aNo (bs a) h (by rw [hd];exact d) ev w l k).mono ?_;rintro e w' ⟨B,rfl,-,-,p⟩;have H:=H.step (aLm p);have H:=H.fz (.ic (.iface (ren.t 168) (.pointer (some ⟨B,0,none⟩))) false) ⟨_,_,rfl⟩;exact⟨_,rfl,H.U [1] (by decide)⟩
 ·cases b
end Go.Proofs.YtnccbhdmemheeaaGreatDoor.E
