/- Laws that the claim stands on; no condition beyond those stated. -/
import Derived.Test.YthgccglopkgghaaGreatDoorHW
import Derived.Test.YthgccglopkgghaaGreatDoorPLb
import Derived.Lib.AppendIntMem
import Derived.Lib.ItoaMem
namespace Go.Lf
open Go.RowKit Go.OB Go.Sort
theorem nT {u:Nat} (a:1<=u) (d:u<18446744073709551616):Fdr (u:Int)=some ((Lib.nDigits u:Nat):Int):=by
 have q:=Lib.numDigits_eq u a d;have i:Lib.bitLen u<=64:=Lib.bitLen_le u 64 (Nat.le_refl _) (by omega);unfold Fdr Fdk;rw [if_pos (by omega),zA,Int.toNat_natCast];generalize Lib.bitLen u=b at *
 have e:Fcm (b:Int)=some ((Lib.l10 b:Nat):Int):=by
  unfold Fcm shr';simp only [zS];rw [wrap_i64 (by omega) (by omega),if_pos (by decide),zA]
  congr 1
 rw [e,zA];have f:=q.2;have g:at' zD.l ((Lib.l10 b:Nat):Int)=some ((10^Lib.l10 b:Nat):Int):=by
  generalize Lib.l10 b=k at f;have:=(by decide+kernel: ∀k:Fin 20,at' zD.l ((k.1:Nat):Int)=some ((10^k.1:Nat):Int)) ⟨k,by omega⟩;exact this
 rw [g,zA];simp only [zS];unfold Fds
 by_cases c:10^Lib.l10 b<=u
 ·rw [dT (show((10^Lib.l10 b:Nat):Int)<=(u:Int)from Int.ofNat_le.2 c),zI,zA,wrap_i64 (by omega) (by omega)];rw [if_pos c]at q
  congr 1;omega
 ·rw [qD (λh=>c (Int.ofNat_le.1 h)),zH,zA,wrap_i64 (by omega) (by omega)];rw [if_neg c]at q
  congr 1;omega
theorem qR {P:Program}{w:World}{ρ:Env}{t e ty:TypeId}{x hi:Operand}{b n h:Nat}{d:Option Nat}{pos:String}{af:Array Edge}{g:Option (Nat×Bool)}(a:P.underlying t=some (.array n e))(j:Sz P e 1)(k:ev ρ x= .pointer (some ⟨b,0,none⟩))(hh:ev ρ hi= .int .i64 (h:Int))(m:h<=n)(_:0<n):
    Do P ⟨d,.slice t x none (some hi) none,ty,pos,af,g⟩ ρ w (.slice (some ⟨b,0,none⟩) h n) w:=by
 have i:P.elem t=e:=by simp [Program.elem,a]
 have c:P.arrayLen t=n:=by simp [Program.arrayLen,a]
 have f:P.underlying t=some (.array (P.arrayLen t) (P.elem t)):=by rw [i,c];exact a
 unfold Do;simp [execOp,k,hh,run_sliceAt_array_h w t ⟨b,0,none⟩ f .i64 (h:Int) (by omega) (by rw [c];omega),i,c,bQ j,slicedAt,Addr.add_none]
def vN (b:UInt8):Value:= .int .u8 (b.toNat:Int)
theorem Wr.put {w:World}{b:Nat}{cs:List Value}{T:TypeId} (a:Blk w b cs T) (d:Array UInt8) (k:Nat):Wr w ((putRow vN w b 0 d).drewN k) b (putCells vN 0 d cs.toArray).toList T:=by
 have f:=a.lt;unfold Blk at a;refine⟨?_,⟨rfl,rfl,rfl,?_,λi _ g=>?_⟩,?_⟩;unfold Blk;rw [World.heap_drewN];simp [putRow,mapBlock,Array.getElem?_modify,a,onCells];rw [World.heap_drewN];simp;rw [World.heap_drewN];have c:b≠i:=λe=>g (by simp [e]);simp [putRow,mapBlock,Array.getElem?_modify,c];rw [World.heap_drewN];simp
theorem aIz {u c:Nat}{a:Array UInt8} (h:Lib.FmtInv (Lib.nDigits u) u 0 c a) (g:Lib.nDigits u<=24):
  ((putCells vN 0 a (List.replicate 24 (Value.int .u8 0)).toArray).toList.drop 0).take (Lib.nDigits u*1)=ints .u8 (nums (Lib.decDigits u)):=by
 have d:a.size=Lib.nDigits u:=h.size;have e:=Lib.decDigits_length u;apply List.ext_getElem?;intro j;rw [List.drop_zero,Nat.mul_one]
 by_cases b:j<Lib.nDigits u
 ·rw [List.getElem?_take,if_pos b];have q:=Lib.row_is_numeral h j (by omega);have f:(ints .u8 (nums (Lib.decDigits u)))[j]? =some (vN a[j]!):=by
   rw [<-q];simp [ints,nums,vN,e,b]
  rw [f];simp only [putCells,Array.getElem?_toList,Array.getElem?_mapIdx];have:j<24:=by omega
  simp [this,d,b]
 ·rw [List.getElem?_eq_none (by rw [List.length_take];omega),List.getElem?_eq_none (by simp [ints,nums];omega)]
end Go.Lf
namespace Go.Proofs.YthgccglopkgghaaGreatDoor.E
open Go.RowKit Go.OB Go.Lf Go.Sort
theorem xu3:Tryz.prog.underlying 3=some (.int .i64):=Tryz.underlying3
theorem xu5:Tryz.prog.underlying 5=some (.int .u8):=Tryz.underlying5
theorem xu9:Tryz.prog.underlying 9=some .string:=Tryz.underlying9
theorem xu37:Tryz.prog.underlying 37=some (.slice 5):=Tryz.underlying37
theorem xu120:Tryz.prog.underlying 120=some (.int .u64):=Tryz.underlying120
theorem aBn:Tryz.prog.underlying 131=some (.array 24 5):=Tryz.underlying131
theorem aHb:Sz Tryz.prog 5 1:=by unfold Sz;kernel_rfl
theorem xel5:El Tryz.prog 5 1 1 ([.int .u8 0]):=⟨by kernel_rfl,by kernel_rfl,by kernel_rfl,by decide,by decide⟩
theorem xz5:Z8 Tryz.prog 5:=by unfold Z8;kernel_rfl
theorem aAr:Go.OB.Zero Tryz.prog 131 (List.replicate 24 (.int .u8 0)):=by unfold Go.OB.Zero;kernel_rfl
theorem xen113:Go.OB.Enters Tryz.prog 113:=⟨_,Tryz.func113,rfl,by kernel_rfl⟩
theorem aIt:Go.OB.Enters Tryz.prog 114:=⟨_,Tryz.func114,rfl,by kernel_rfl⟩
theorem aIe:Go.OB.Enters Tryz.prog 115:=⟨_,Tryz.func115,rfl,by kernel_rfl⟩
theorem aJt {u:Nat}(a:u<100)(w:World):Calls Tryz.prog 113 #[.int .i64 (u:Int)] w λe w'=>e= .returned (.string (bs (Lib.decDigits u)))/\w'=w:=Any.internal_strconv_small shLays283 u a w
theorem fmt_c {w:World}{b u:Nat}(c:Blk w b (List.replicate 24 (.int .u8 0)) 131)(_:1<=u)(a:u<18446744073709551616):
  Calls Tryz.prog 115 #[.slice (some ⟨b,0,none⟩) (Lib.nDigits u) 24,.int .u64 (u:Int)] w λe w'=>e= .returned (.tuple #[])/\ ∃k h d,w'=(putRow vN w b 0 d).drewN k/\Lib.FmtInv (Lib.nDigits u) u 0 h d:=by
 have l:=Lib.nDigits_le20 u a;have i:Holds (λ(b:UInt8)=>Value.int .u8 (b.toNat:Int)) w b 0 (Array.replicate (Lib.nDigits u) (0:UInt8)):=λj f=>by
  rw [Array.size_replicate]at f;refine⟨?_,c.frozen _⟩;rw [getElem!_pos _ j (by rw [Array.size_replicate];exact f),Array.getElem_replicate];refine c.cell ?_;rw [Nat.zero_add,List.getElem?_replicate,if_pos (by omega)];rfl
 have q:=Any.internal_strconv_formatBase10 aDe b 0 24 u (Array.replicate (Lib.nDigits u) 0) w i (by rw [Array.size_replicate];exact Lib.lt_pow_nDigits u) a (by rw [Array.size_replicate];omega);rw [Array.size_replicate]at q;exact q
theorem Fcgw (m:List Int) (n p2:Int) (v0:Value) (r:List Int) (h:Fcg m n p2=some r) (O S:List Nat) (w:World) (H:Hd O w w S [.own (Rp.int .u8) v0 5 m,.fz (.at 1 0 ((Fl.arr 20 (Fl.int .u64)).f zD))]):
  Calls Tryz.prog 93 ([v0,.int .u64 n,.int .i64 p2]:List Value).toArray w λe w'=> ∃u,e= .returned u/\Hd O w w' S [.own (Rp.int .u8) u 5 r]:=by
 unfold Fcg at h;split at h
 ·rename_i c;obtain⟨rfl,j,c2,c3⟩:=c;have B:=oI h;subst B;obtain⟨u,rfl⟩: ∃u:Nat,n=u:=⟨n.toNat,by omega⟩;rw [Int.toNat_natCast];have d:u<18446744073709551616:=by omega
  have z:=Lib.nDigits_le20 u d;have a:(nums (Lib.decDigits u)).length=Lib.nDigits u:=by rw [kG,Lib.decDigits_length]
  have A:app' 1 m (nums (Lib.decDigits u))=some (m++nums (Lib.decDigits u)):=by
   unfold app';rw [if_pos ⟨by rw [maxLen_eq,a];omega,by rw [a];omega⟩]
  refine aO 36 Tryz.func93 rfl rfl rfl ?_;refine yI λ_ o=>?_
  refine zF ?_;refine yM rfl rfl (yS rfl) ?_;refine(yH (zK (o _ _ ?_)));refine yI λ_ _=>?_
  refine yI λ_ p=>?_
  refine zF ?_;refine yM rfl rfl (xA (v:= .int _ _) rfl) ?_;refine yM rfl rfl (aEx rfl rfl) ?_;refine(yH (zK (p _ _ ?_)))
  first |refine wF rfl (λj=>?_) (λj=>?_)|refine mX rfl (λj=>?_) (λj=>?_)
  ·refine yI λ_ q=>?_
   refine yI λ_ s=>?_
   refine zF ?_;refine yM rfl rfl (xA (v:= .int _ _) rfl) ?_;refine yM rfl rfl (nS rfl rfl) ?_;refine(yH (zK (s _ _ ?_)))
   first |refine wF rfl (λc2=>?_) (λc2=>?_)|refine mX rfl (λc2=>?_) (λc2=>?_)
   ·refine yI λD g=>?_
    refine zF ?_;refine yM rfl rfl (xA (v:=v0) rfl) ?_;refine yM rfl rfl (xA (v:= .int _ _) rfl) ?_;refine yM rfl rfl (vI xu120 xu3 rfl (wrap_i64 (by omega) (by omega))) ?_;refine eP rfl rfl (zW xen113 rfl) (aJt (by omega) w) ?_;rintro _ _ ⟨rfl,rfl⟩;refine⟨_,rfl,?_⟩;refine aBh rfl rfl (wR H (i:=0) rfl xu37 xu9 xz5 rfl rfl A) ?_;rintro l _ H;refine yM rfl rfl (yS (v:=l) rfl) ?_;refine(yH (zK (g _ _ ?_)));refine(zJ (zG (zG (pI (v1:=l) rfl rfl ?_))));exact⟨_,rfl,H.U [0] (by decide)⟩
   ·refine(yN (zK (q _ _ ?_)));refine yI λD g=>?_
    refine zF ?_;refine aBh rfl rfl (zZ aAr H) ?_;rintro _ _ ⟨_,rfl,H⟩;refine(yH (zK (g _ _ ?_)));refine yI λ_ t=>?_
    refine zF ?_;refine yM rfl rfl (xA (v:= .int _ _) rfl) ?_;have E:=H;refine eP rfl rfl (zW aIt rfl) (Fdrw (u:Int) _ (nT (by omega) d) _ _ _ (H.W [] [1] (by decide) rfl)) ?_;rintro _ _ ⟨rfl,G⟩;have H:=E.step (G.only:Only [] _ _);refine⟨_,rfl,?_⟩;refine yM rfl rfl (yS (v:= .int _ _) rfl) ?_;refine(yH (zK (t _ _ ?_)));refine yI λ_ x=>?_
    refine zF ?_;refine yM rfl rfl (xA (v:= .int _ _) rfl) ?_;refine yM rfl rfl (qR aBn aHb rfl rfl (show Lib.nDigits u<=24 by omega) (by decide)) ?_;refine yM rfl rfl (xA (v:= .int _ _) rfl) ?_;refine eP rfl rfl (zW aIe rfl) (fmt_c (H.V (i:=2) rfl) (by omega) d) ?_;rintro _ _ ⟨rfl,k,_,F,rfl,h⟩;have H:=H.wr (i:=2) rfl (Wr.put (H.V (i:=2) rfl) F k);refine⟨_,rfl,?_⟩;refine(yH (zK (x _ _ ?_)));refine yI λ_ y=>?_
    refine zF ?_;refine yM rfl rfl (xA (v:=v0) rfl) ?_;refine yM rfl rfl (xA (v:= .int _ _) rfl) ?_;refine yM rfl rfl (qR aBn aHb rfl rfl (show Lib.nDigits u<=24 by omega) (by decide)) ?_;refine aBh rfl rfl (aT H (i:=0) rfl xu37 xel5 rfl rfl ⟨_,kW.2 rfl,by rw [a];exact Blk.slo (H.V (i:=2) rfl) (aIz h (by omega)) (by show(List.map _ _).length=_;rw [List.length_map,a];exact(Nat.mul_one _).symm) (by omega) (by rw [maxLen_eq];omega)⟩ A) ?_;rintro l _ H;refine yM rfl rfl (yS (v:=l) rfl) ?_;refine(yH (zK (y _ _ ?_)));refine(zJ (zG (pI (v1:=l) rfl rfl ?_)));exact⟨_,rfl,H.U [0] (by decide)⟩
  ·exact absurd rfl j
 ·cases h
end Go.Proofs.YthgccglopkgghaaGreatDoor.E
namespace Go.Lf
open Go.RowKit Go.OB Go.Sort Go.Shelf Go.Proofs
theorem hd_free {O S:List Nat}{a w w':World}{l:List Th}{i:Nat}{b:Th}(H:Hd O a w S l)(hi:l[i]? =some b)(c:Only b.blocks w w'):Hd O a w' S []:=by
 have h:=H.turn (it':= .fz ⟨λ_ _=>True,λ_ _=>trivial⟩) hi c (λ_=>trivial) (by simp [Th.blocks]) (by simp [Th.blocks]);exact h.U [] (by decide)
section
variable {P:Program}{ρ:Ren}
set_option maxHeartbeats 1000000 in
set_option maxRecDepth 100000 in
theorem aEz (L:Lays.n169 P ρ) (X:Builder.Extra P ρ) (b g cap:Nat) (p:Value) (a:Array Value) (l:List UInt8) (w:World) (k:l≠[]) (d:w.heap[b]? =some (.cells #[p,.slice (some ⟨g,0,none⟩) l.length cap] (ρ.t 72) (0,0))) (n:w.heap[g]? =some (.cells a (ρ.t 5) (0,0))) (o:l.length<=cap) (h:cap<=maxLen) (q:a.size=cap*1)
  (c: ∀j x,l[j]? =some x->w.cell? ⟨g,0+j,none⟩=some (.int .u8 x.toNat)):
  Calls P (ρ.f 169) #[.pointer (some ⟨b,0,none⟩)] w λe w'=>e= .returned (.string ⟨l.toArray⟩)/\w'=w.drew.freeze ⟨g,0,none⟩ l.length:=by
 have r:l.length≠0:=by simpa using k
 have A:w.drew.cell? ⟨b,1,none⟩=some (.slice (some ⟨g,0,none⟩) l.length cap):=by
  have:w.drew.heap[b]? =some (.cells #[p,.slice (some ⟨g,0,none⟩) l.length cap] (ρ.t 72) (0,0)):=d;rw [Lib.cell_of_heap this];rfl
 have s:(Builtin.unsafeSliceData_ #[(ρ.t 37)] (ρ.t 127) #[.slice (some ⟨g,0,none⟩) l.length cap]).run P w.drew= .ok (.pointer (some ⟨g,0,none⟩)) w.drew:=
  Lib.run_unsafeSliceData_row _ _ _ _ _ _ (by omega)
 have u:(Builtin.unsafeString_ #[(ρ.t 127),(ρ.t 3)] (ρ.t 9) #[.pointer (some ⟨g,0,none⟩),.int .i64 l.length]).run P w.drew= .ok (.string ⟨l.toArray⟩) (w.drew.freeze ⟨g,0,none⟩ l.length):=by
  refine Lib.run_unsafeString_row w.drew (ρ.t 127) (ρ.t 3) (ρ.t 9) (ρ.t 5) L.t127 X.cellsByte g a.size (by have i:w.drew.heap[g]? =some (.cells a (ρ.t 5) (0,0)):=n;simp [World.shape?,i]) l k (by omega) (by unfold maxLen at h;omega) ?_;intro j x v;rw [Addr.add_none];exact c j x v
 have mixed:=L.mixed;have t72:=L.t72;have a72:=L.a72;have z72:=L.z72;have v72:=L.v72;have y:=run_underlying L.t72;have t70:=L.t70;have a70:=L.a70;have z70:=L.z70;have v70:=L.v70;have z:=run_underlying L.t70;have t37:=L.t37;have a37:=L.a37;have z37:=L.z37;have v37:=L.v37;have u37:=run_underlying L.t37;have t127:=L.t127;have a127:=L.a127;have z127:=L.z127;have v127:=L.v127;have m:=run_underlying L.t127;have t3:=L.t3;have a3:=L.a3;have z3:=L.z3;have v3:=L.v3;have u3:=run_underlying L.t3;have t9:=L.t9;have a9:=L.a9;have z9:=L.z9;have v9:=L.v9;have u9:=run_underlying L.t9;have t5:=X.t5;have a5:=X.a5;have z5:=X.z5;have v5:=X.v5;have u5:=run_underlying X.t5
 go_enter L.f169,Body.n169_ntmps ρ
 go_wp2
 go_region_o
 all_goals (go_wp2;go_ret;exact⟨rfl,rfl⟩)
set_option maxHeartbeats 2000000 in
set_option maxRecDepth 100000 in
theorem aGf (L:Lays.n169 P ρ) (X:Builder.Extra P ρ) (b:Nat) (p:Value) (w:World) (a:w.heap[b]? =some (.cells #[p,.slice none 0 0] (ρ.t 72) (0,0))):
  Calls P (ρ.f 169) #[.pointer (some ⟨b,0,none⟩)] w λe w'=>e= .returned (.string ⟨#[]⟩)/\gZ w w':=
 Any.Builder_String_nil L X w.heap.size b p w a
theorem aCe (L:Lays.n169 P ρ) (X:Builder.Extra P ρ) (b g cap:Nat) (p:Value) (a:Array Value) (w:World) (c:w.heap[b]? =some (.cells #[p,.slice (some ⟨g,0,none⟩) 0 cap] (ρ.t 72) (0,0))) (h:w.heap[g]? =some (.cells a (ρ.t 5) (0,0))):
    Calls P (ρ.f 169) #[.pointer (some ⟨b,0,none⟩)] w λe w'=>e= .returned (.string ⟨#[]⟩)/\gZ w w':=by
 by_cases d:cap=0;subst d;exact(Any.Builder_String_noroom L X w.heap.size b g p a w (Nat.le_refl _) c h);exact(Any.Builder_String_room L X w.heap.size b g cap p w d c)
end
theorem Wr.cell0 {w:World}{b:Nat}{c v:Value}{cs:List Value}{T:TypeId} (h:Blk w b (c::cs) T):Wr w (w.setCell ⟨b,0,none⟩ v) b (v::cs) T:=by
 unfold Blk at h;refine⟨?_,⟨rfl,rfl,rfl,by simp [World.setCell],λk _ a=>?_⟩,by simp [World.setCell]⟩;unfold Blk;simp [World.setCell,Array.getElem?_modify,h];have:b≠k:=λe=>a (by simp [e]);simp [World.setCell,Array.getElem?_modify,this]
theorem aGz {w:World}{g n:Nat}:Only [g] w (w.drew.freeze ⟨g,0,none⟩ n):=by
 have a:Only [g] w w.drew:=(Only.of_below ((Below.refl w.heap.size w).drew)).mono (by simp);refine a.trans ?_;unfold World.freeze;split;exact Only.refl _ _;refine⟨rfl,rfl,rfl,by simp,λk _ b=>?_⟩;have:g≠k:=λe=>b (by simp [e]);simp [Array.getElem?_modify,this]
end Go.Lf
namespace Go.Proofs.YthgccglopkgghaaGreatDoor.E
open Go.RowKit Go.OB Go.Lf Go.Sort
theorem Ffvw (c:List Int) (a:Nat) (v2 v3:Value) (r:List Int) (g:Ffv c=some r) (O S:List Nat) (w:World) (H:Hd O w w S [.own (Rp.int .u8) v3 5 c,.blk a [v2,v3] 74,.fz (.oq v2 a)]):
  Calls Tryz.prog 56 ([.pointer (some ⟨a,0,none⟩)]:List Value).toArray w λe w'=> ∃d u2,e= .returned (.tuple #[])/\Hd O w w' S [.fz (.oq d a),.own (Rp.int .u8) u2 5 r,.blk a [d,u2] 74]:=by
 have h:=oI g;subst h;have b:Blk w a [v2,v3] 74:=H.V (i:=1) rfl;have j:v2= .pointer none\/v2= .pointer (some ⟨a,0,none⟩):=H.V (i:=2) rfl;have f:w.cell? ⟨a,0,none⟩=some v2:=b.cell rfl;rcases j with rfl|rfl
 ·refine(Any.Builder_copyCheck_fresh aCt shX.toX72 a w f (by have b:=b;unfold Blk at b;simp [World.shape?,b];rfl) (b.frozen _)).mono ?_;rintro e w' ⟨rfl,rfl⟩;refine⟨.pointer (some ⟨a,0,none⟩),v3,rfl,?_⟩;have H:=H.wr (i:=1) rfl (Wr.cell0 (v:= .pointer (some ⟨a,0,none⟩)) b);have H:=H.fz (.oq (.pointer (some ⟨a,0,none⟩)) a) (.inr rfl);exact H.U [3,0,1] (by decide)
 ·refine(Any.Builder_copyCheck_used aCt shX.toX72 a w f).mono ?_;rintro e w' ⟨rfl,rfl⟩;exact⟨_,v3,rfl,H.U [2,0,1] (by decide)⟩
theorem Fevw (q:List Int) (a:Nat) (v2 v3:Value) (r:Str) (b:Fev q=some r) (O S:List Nat) (w:World) (H:Hd O w w S [.own (Rp.int .u8) v3 5 q,.blk a [v2,v3] 74,.fz (.oq v2 a)]):
  Calls Tryz.prog 30 ([.pointer (some ⟨a,0,none⟩)]:List Value).toArray w λe w'=>e= .returned (.string (bs r))/\Hd O w w' S []:=by
 unfold Fev at b;split at b
 rotate_left
 ·cases b
 rename_i s;have t:=oI b;rw [t]at s;subst s;clear t b;have c:Blk w a [v2,v3] 74:=H.V (i:=1) rfl;unfold Blk at c;obtain⟨_,h,u⟩:=H.V (i:=0) rfl;have h:=kW.1 h;subst h;have k:=kG r;rcases u.2 with ⟨rfl,_⟩|⟨g,cap,d,rfl,_,f,_,l,m,_⟩
 ·have o:r=[]:=List.eq_nil_of_length_eq_zero (by omega);subst o;refine(aGf xN shX a v2 w c).mono ?_;rintro e w' ⟨rfl,p⟩;exact⟨rfl,(H.Z p).U [] (by decide)⟩
 ·by_cases v:r=[]
  ·subst v;refine(aCe xN shX a g cap v2 d w c f).mono ?_;rintro e w' ⟨rfl,p⟩;exact⟨rfl,(H.Z p).U [] (by decide)⟩
  ·rw [k]at c;refine(aEz xN shX a g cap v2 d r w v c f (by omega) l m (λj x o=>?_)).mono ?_
   ·have y:=u.cells (g:=g) rfl j (.int .u8 (x.toNat:Int)) (by simp [ints,nums,o]);rw [Addr.add_none]at y;exact y
   ·rintro e w' ⟨rfl,rfl⟩;exact⟨rfl,hd_free H (i:=0) rfl (aGz.mono (by simp [Th.blocks,ob,jY]))⟩
theorem Fe5w (f:List Str) (m:Str) (v0:Value) (r:Str) (n:Fe5 f m=some r) (O S:List Nat) (w:World) (H:Hd O w w S [.fz (.sl Rp.str v0 f)]):
  Calls Tryz.prog 92 ([v0,.string (bs m)]:List Value).toArray w λe w'=>e= .returned (.string (bs r))/\Hd O w w' S []:=by
 unfold Fe5 at n;split at n
 ·rename_i c;obtain⟨C,c2⟩:=c;have D:=oI n;subst D;obtain⟨_,E,z,F⟩:=H.V (i:=0) rfl;have A: ∀l:List Str,(l.map bs).map (λx=>x.data.toList)=l:=λl=>by
   rw [List.map_map]
   conv=>rhs;rw [<-List.map_id l]
   rfl
  rcases Nat.eq_zero_or_pos f.length with p|p
  ·have:f=[]:=List.eq_nil_of_length_eq_zero p;subst this;obtain⟨a,c,rfl⟩:=z.shape;refine(Any.strings_Join_none aCu shX a c (bs m) w).mono ?_;rintro e w' ⟨rfl,rfl⟩;exact⟨rfl,H.U [] (by decide)⟩
  ·obtain⟨b,o,cap,rfl,g,-,G⟩:=z.some (by omega);have t:=F p b rfl;have q:=Any.strings_Join aCu shX b o cap (f.map bs) (bs m) w (λj x B=>?_) t.2 (by rw [List.length_map];exact C) (by rw [List.length_map];exact g) (by rw [A];exact c2)
   ·rw [List.length_map,A]at q;refine q.mono ?_;rintro e w' ⟨rfl,I⟩;exact⟨rfl,(H.Z I).U [] (by decide)⟩
   ·have k: ∀{l:List Str}{cs:List Value},rows Rp.str (frees O [.fz (.sl Rp.str (.slice (some ⟨b,o,none⟩) f.length cap) f)]) w cs l->cs=l.map λs=> .string (bs s):=by
     intro l
     induction l with
     |nil=>intro cs h;exact h
     |cons y l J=>rintro cs ⟨K,_,rfl,u,L⟩;have u:K=[.string (bs y)]:=u;rw [u,J L];rfl
    have v:=k E;subst v;rw [List.getElem?_map,Option.map_eq_some_iff]at B;obtain⟨y,M,rfl⟩:=B;have:=G j (.string (bs y)) (by rw [List.getElem?_map,M];rfl);rw [Addr.add_none]at this;exact this
 ·cases n
theorem uX {w w':World}(h:Below w.heap.size w w'):Only [] w w':=Only.of_below h
theorem Fc1w (a:Str) (r:Int×Bool) (f:Fc1 a=some r) (O S:List Nat) (w:World) (H:Hd O w w S [.fz (.gi 3),.fz (.gi 4)]):
  Calls Tryz.prog 95 ([.string (bs a)]:List Value).toArray w λe w'=> ∃u,e= .returned (.tuple #[.int .i64 r.1,u])/\Hd O w w' S [.fz (.ic u r.2)]:=by
 obtain⟨-,-,b,h,j⟩:frees O [Th.fz (.gi 3),Th.fz (.gi 4)] 3/\3<w.heap.size/\ ∃v,Cells w ⟨3,0,none⟩ [v]/\(v= .nilIface\/ ∃T x,v= .iface T x):=H.V (i:=0) rfl;have k:w.cell? ⟨3,0,none⟩=some b:=h.get (i:=0) rfl;obtain⟨-,-,d,l,m⟩:frees O [Th.fz (.gi 3),Th.fz (.gi 4)] 4/\4<w.heap.size/\ ∃v,Cells w ⟨4,0,none⟩ [v]/\(v= .nilIface\/ ∃T x,v= .iface T x):=H.V (i:=1) rfl;have o:w.cell? ⟨4,0,none⟩=some d:=l.get (i:=0) rfl;unfold Fc1 at f;split at f
 ·rename_i c;have z:(bs a).size<=1000000:=by rw [kY];exact c
  have g:(bs a).data.toList=a:=by simp [bs]
  have q:=oI f;subst q
  cases hn:Lib.atoiAll a with
  |ok n=>
   refine(Any.strconv_Atoi_ok uU (bs a) (by omega) n (by rw [g];exact hn) w).mono ?_;rintro e w' ⟨rfl,s⟩;have y:Only [] w w':=by
    rcases s with rfl|⟨t,rfl⟩
    ·exact Only.refl _ _
    ·exact uX (Lib.bytesWorld_below _ _ _)
   have H:=H.step y;have H:=H.fz (.ic .nilIface true) rfl;exact⟨_,rfl,H.U [2] (by decide)⟩
  |range=>
   refine(Any.strconv_Atoi_range uU (bs a) (by omega) (by rw [g];exact hn) d w o m).mono ?_;rintro e w' ⟨B,rfl,-,-,p⟩;have H:=H.step (uX p);have H:=H.fz (.ic (.iface (ren.t 168) (.pointer (some ⟨B,0,none⟩))) false) ⟨_,_,rfl⟩;refine⟨_,?_,H.U [2] (by decide)⟩;rw [g]
  |_=>
   refine(Any.strconv_Atoi_syntax uU (bs a) (by omega) (by rw [g];exact hn) b w k j).mono ?_;rintro e w' ⟨B,rfl,-,-,p⟩;have H:=H.step (uX p);have H:=H.fz (.ic (.iface (ren.t 168) (.pointer (some ⟨B,0,none⟩))) false) ⟨_,_,rfl⟩;exact⟨_,rfl,H.U [2] (by decide)⟩
 ·cases f
theorem Fezw (a:Str)(b r:Int)(c:Fez a b=some r)(O S:List Nat)(w:World)(H:Hd O w w S []):
  Calls Tryz.prog 117 ([.string (bs a),.int .u8 b]:List Value).toArray w λe w'=>e= .returned (.int .i64 r)/\Hd O w w' S []:=by
 have d:(bs a).data.toList=a:=by simp [bs]
 have f:=oI c;subst f;refine(Any.stringslite_IndexByte {shLays217 with} (bs a) b w).mono ?_;rintro e w' ⟨rfl,rfl⟩;rw [d];exact⟨rfl,H⟩
end Go.Proofs.YthgccglopkgghaaGreatDoor.E
namespace Go.Lf
theorem str_numsF (s:Str):str' (nums s)=s:=by
 unfold str' nums;rw [List.map_map]
 conv=>rhs;rw [<-List.map_id s]
 apply List.map_congr_left;intro _ _;simp
end Go.Lf
namespace Go.Proofs.YthgccglopkgghaaGreatDoor.E
open Go.RowKit Go.OB Go.Lf Go.Sort Go.Shelf Go.Proofs
theorem xu2:Tryz.prog.underlying 2=some (.int .i64):=Tryz.underlying2
theorem fmt_c1 {w:World}{b u:Nat}(c:Blk w b (List.replicate 24 (.int .u8 0)) 131)(_:1<=u)(a:u<18446744073709551616):
  Calls Tryz.prog 115 #[.slice (some ⟨b,1,none⟩) (Lib.nDigits u) 23,.int .u64 (u:Int)] w λe w'=>e= .returned (.tuple #[])/\ ∃k h d,w'=(putRow vN w b 1 d).drewN k/\Lib.FmtInv (Lib.nDigits u) u 0 h d:=by
 have l:=Lib.nDigits_le20 u a;have i:Holds (λ(b:UInt8)=>Value.int .u8 (b.toNat:Int)) w b 1 (Array.replicate (Lib.nDigits u) (0:UInt8)):=λj f=>by
  rw [Array.size_replicate]at f;refine⟨?_,c.frozen _⟩;rw [getElem!_pos _ j (by rw [Array.size_replicate];exact f),Array.getElem_replicate];refine c.cell ?_;rw [List.getElem?_replicate,if_pos (by omega)];rfl
 have q:=Any.internal_strconv_formatBase10 aDe b 1 23 u (Array.replicate (Lib.nDigits u) 0) w i (by rw [Array.size_replicate];exact Lib.lt_pow_nDigits u) a (by rw [Array.size_replicate];omega);rw [Array.size_replicate]at q;exact q
theorem Wr.put1 {w:World}{b:Nat}{cs:List Value}{T:TypeId} (a:Blk w b cs T) (d:Array UInt8) (k:Nat):Wr w ((putRow vN w b 1 d).drewN k) b (putCells vN 1 d cs.toArray).toList T:=by
 have f:=a.lt;unfold Blk at a;refine⟨?_,⟨rfl,rfl,rfl,?_,λi _ g=>?_⟩,?_⟩;unfold Blk;rw [World.heap_drewN];simp [putRow,mapBlock,Array.getElem?_modify,a,onCells];rw [World.heap_drewN];simp;rw [World.heap_drewN];have c:b≠i:=λe=>g (by simp [e]);simp [putRow,mapBlock,Array.getElem?_modify,c];rw [World.heap_drewN];simp
theorem xY {u c:Nat}{a:Array UInt8} (h:Lib.FmtInv (Lib.nDigits u) u 0 c a) (k:Lib.nDigits u<=23):
  ((putCells vN 1 a (List.replicate 24 (Value.int .u8 0)).toArray).toList.drop 1).take (Lib.nDigits u*1)=ints .u8 (nums (Lib.decDigits u)):=by
 have d:a.size=Lib.nDigits u:=h.size;have e:=Lib.decDigits_length u;apply List.ext_getElem?;intro j;rw [Nat.mul_one]
 by_cases b:j<Lib.nDigits u
 ·rw [List.getElem?_take,if_pos b,List.getElem?_drop];have q:=Lib.row_is_numeral h j (by omega);have f:(ints .u8 (nums (Lib.decDigits u)))[j]? =some (vN a[j]!):=by
   rw [<-q];simp [ints,nums,vN,e,b]
  rw [f];simp only [putCells,Array.getElem?_toList,Array.getElem?_mapIdx];have g:1+j<24:=by omega
  have i:1+j<1+a.size:=by omega
  simp [g,d,b]
 ·rw [List.getElem?_eq_none (by rw [List.length_take];omega),List.getElem?_eq_none (by simp [ints,nums];omega)]
theorem aEo {u c:Nat}{b:Array UInt8}(h:Lib.FmtInv (Lib.nDigits u) u 0 c b)(d:Lib.nDigits u<=23):
  ((((putCells vN 1 b (List.replicate 24 (Value.int .u8 0)).toArray).toList.set 0 (.int .u8 45)).drop 0).take ((1+Lib.nDigits u)*1))=ints .u8 (nums (45::Lib.decDigits u)):=by
 have q:=xY h d;rw [Nat.mul_one]at q;rw [Nat.mul_one,List.drop_zero,Nat.add_comm];have e:ints .u8 (nums (45::Lib.decDigits u))=(.int .u8 45)::ints .u8 (nums (Lib.decDigits u)):=rfl;rw [e,<-q]
 cases hc:(putCells vN 1 b (List.replicate 24 (Value.int .u8 0)).toArray).toList with
 |nil=>have:=congrArg List.length hc;simp [putCells]at this
 |cons _ _=>rfl
theorem Fgc (u:Nat) (R:u<=9223372036854775807) (O S:List Nat) (w:World) (H:Hd O w w S [.fz (.at 1 0 ((Fl.arr 20 (Fl.int .u64)).f zD))]):
  Calls Tryz.prog 111 ([.int .i64 (u:Int),.int .i64 10]:List Value).toArray w λe w'=>e= .returned (.string (bs (Lib.decDigits u)))/\Hd O w w' S []:=by
 have a:u<18446744073709551616:=by omega
 have B:=Lib.nDigits_le20 u a;have d:(nums (Lib.decDigits u)).length=Lib.nDigits u:=by rw [kG,Lib.decDigits_length]
 refine aO 54 Tryz.func111 rfl rfl rfl ?_;refine yI λ_ r=>?_
 refine zF ?_;refine yM rfl rfl (yS rfl) ?_;refine(yH (zK (r _ _ ?_)));refine yI λ_ _=>?_
 refine yI λ_ s=>?_
 refine zF ?_;refine yM rfl rfl (xA (v:= .int _ _) rfl) ?_;refine yM rfl rfl (aEx rfl rfl) ?_;refine(yH (zK (s _ _ ?_)))
 first |refine wF rfl (λq=>?_) (λq=>?_)|refine mX rfl (λq=>?_) (λq=>?_)
 ·refine yI λ_ t=>?_
  refine yI λ_ x=>?_
  refine zF ?_;refine yM rfl rfl (xA (v:= .int _ _) rfl) ?_;refine yM rfl rfl (aDx rfl rfl) ?_;refine wP (b:=decide ((0:Int)<=(u:Int))) rfl rfl rfl (λc2=>?_) (λc2=>?_)
  rotate_left
  ·exact absurd (Int.natCast_nonneg u) (of_decide_eq_false c2)
  refine yM rfl rfl (xA (v:= .int _ _) rfl) ?_;refine yM rfl rfl (nS rfl rfl) ?_;refine yM rfl rfl (pF (v:= .bool _) rfl rfl) ?_;refine(yH (zK (x _ _ ?_)))
  first |refine wF rfl (λc2=>?_) (λc2=>?_)|refine mX rfl (λc2=>?_) (λc2=>?_)
  ·refine yI λD g=>?_
   refine zF ?_;refine yM rfl rfl (xA (v:= .int _ _) rfl) ?_;refine eP rfl rfl (zW xen113 rfl) (aJt (by omega) w) ?_;rintro _ _ ⟨rfl,rfl⟩;refine⟨_,rfl,?_⟩;refine yM rfl rfl (yS (v:= .string _) rfl) ?_;refine(yH (zK (g _ _ ?_)));refine(zJ (zG (zG (pI (v1:= .string _) rfl rfl ?_))));exact⟨rfl,H.U [] (by decide)⟩
  ·refine(yN (zK (t _ _ ?_)));refine yI λD g=>?_
   refine zF ?_;refine aBh rfl rfl (zZ aAr H) ?_;rintro _ _ ⟨b,rfl,H⟩;refine(yH (zK (g _ _ ?_)));refine yI λ_ y=>?_
   refine zF ?_;refine yM rfl rfl (xA (v:= .int _ _) rfl) ?_;refine yM rfl rfl (vI (c:=(u:Int)) xu2 xu120 rfl (by rw [IntKind.wrap_u64];omega)) ?_;refine yM rfl rfl (yS (v:= .int _ _) rfl) ?_;refine(yH (zK (y _ _ ?_)));refine yI λ_ z=>?_
   refine yI λ_ A=>?_
   refine zF ?_;refine yM rfl rfl (xA (v:= .int _ _) rfl) ?_;refine yM rfl rfl (nS rfl rfl) ?_;refine(yH (zK (A _ _ ?_)))
   first |refine wF rfl (λc3=>?_) (λc3=>?_)|refine mX rfl (λc3=>?_) (λc3=>?_)
   ·exfalso;omega
   refine(yN (zK (z _ _ ?_)));refine yI λ_ h=>?_
   refine zF ?_;refine yM rfl rfl (xA (v:= .int _ _) rfl) ?_;have I:=H;refine eP rfl rfl (zW aIt rfl) (Fdrw (u:Int) _ (nT (by omega) a) _ _ _ (H.W [] [0] (by decide) rfl)) ?_;rintro _ _ ⟨rfl,G⟩;have H:=I.step (G.only:Only [] _ _);refine⟨_,rfl,?_⟩;refine yM rfl rfl (yS (v:= .int _ _) rfl) ?_;refine(yH (zK (h _ _ ?_)));refine yI λ_ l=>?_
   refine zF ?_;refine yM rfl rfl (xA (v:= .int _ _) rfl) ?_;refine yM rfl rfl (qU (c:=((1+Lib.nDigits u:Nat):Int)) rfl rfl (by rw [IntKind.wrap_i64];omega)) ?_;refine yM rfl rfl (qO (i:=1) (j:=Lib.nDigits u) (m:=1) aBn aHb rfl rfl rfl rfl rfl (by omega) (by omega) rfl) ?_;refine yM rfl rfl (xA (v:= .int _ _) rfl) ?_;refine eP rfl rfl (zW aIe rfl) (fmt_c1 (H.V (i:=1) rfl) (by omega) a) ?_;rintro _ _ ⟨rfl,k,_,K,rfl,L⟩;have H:=H.wr (i:=1) rfl (Wr.put1 (H.V (i:=1) rfl) K k);refine⟨_,rfl,?_⟩;refine(yH (zK (l _ _ ?_)));refine yI λ_ n=>?_
   refine yI λ_ o=>?_
   refine zF ?_;refine yM rfl rfl (xA (v:= .int _ _) rfl) ?_;refine yM rfl rfl (nS rfl rfl) ?_;refine(yH (zK (o _ _ ?_)))
   first |refine wF rfl (λc4=>?_) (λc4=>?_)|refine mX rfl (λc4=>?_) (λc4=>?_)
   ·exfalso;omega
   refine(yN (zK (n _ _ ?_)));refine yI λ_ p=>?_
   refine zF ?_;refine yM rfl rfl (xA (v:= .int _ _) rfl) ?_;refine yM rfl rfl (qU (c:=((1+Lib.nDigits u:Nat):Int)) rfl rfl (by rw [IntKind.wrap_i64];omega)) ?_;refine yM rfl rfl (qO (i:=1) (j:=Lib.nDigits u) (m:=1) aBn aHb rfl rfl rfl rfl rfl (by omega) (by omega) rfl) ?_;refine yM rfl rfl (uV (F:=λ_=>True) (xl:=nums (Lib.decDigits u)) xu37 xu5 xu9 rfl ⟨_,kW.2 rfl,by rw [d];exact Blk.slo (H.V (i:=1) rfl) (xY L (by omega)) (by show(List.map _ _).length=_;rw [List.length_map,d];exact(Nat.mul_one _).symm) (by omega) (by rw [maxLen_eq];omega)⟩) ?_;refine yM rfl rfl (yS (v:= .string _) rfl) ?_;refine(yH (zK (p _ _ ?_)));rw [str_numsF];refine(zJ (zG (pI (v1:= .string _) rfl rfl ?_)));exact⟨rfl,H.U [] (by decide)⟩
 ·exact absurd rfl q
theorem Fgj (u:Nat) (J:1<=u) (hu:u<=9223372036854775808) (O S:List Nat) (w:World) (H:Hd O w w S [.fz (.at 1 0 ((Fl.arr 20 (Fl.int .u64)).f zD))]):
  Calls Tryz.prog 111 ([.int .i64 (-(u:Int)),.int .i64 10]:List Value).toArray w λe w'=>e= .returned (.string (bs (45::Lib.decDigits u)))/\Hd O w w' S []:=by
 have d:u<18446744073709551616:=by omega
 have D:=Lib.nDigits_le20 u d;have E:(nums (Lib.decDigits u)).length=Lib.nDigits u:=by rw [kG,Lib.decDigits_length]
 have g:(nums (45::Lib.decDigits u)).length=1+Lib.nDigits u:=by rw [kG,List.length_cons,Lib.decDigits_length,Nat.add_comm]
 refine aO 54 Tryz.func111 rfl rfl rfl ?_;refine yI λ_ s=>?_
 refine zF ?_;refine yM rfl rfl (yS rfl) ?_;refine(yH (zK (s _ _ ?_)));refine yI λ_ _=>?_
 refine yI λ_ t=>?_
 refine zF ?_;refine yM rfl rfl (xA (v:= .int _ _) rfl) ?_;refine yM rfl rfl (aEx rfl rfl) ?_;refine(yH (zK (t _ _ ?_)))
 first |refine wF rfl (λr=>?_) (λr=>?_)|refine mX rfl (λr=>?_) (λr=>?_)
 ·refine yI λ_ x=>?_
  refine yI λ_ y=>?_
  refine zF ?_;refine yM rfl rfl (xA (v:= .int _ _) rfl) ?_;refine yM rfl rfl (aDx rfl rfl) ?_;refine wP (b:=decide ((0:Int)<= -(u:Int))) rfl rfl rfl (λc2=>?_) (λc2=>?_)
  ·exact absurd (of_decide_eq_true c2) (by omega)
  refine aIg rfl rfl ?_;refine aIg rfl rfl ?_;refine yM rfl rfl (mF (v:= .bool _) rfl rfl) ?_;refine(yH (zK (y _ _ ?_)));refine WP_iff rfl ?_
  ·refine(yN (zK (x _ _ ?_)));refine yI λ_ z=>?_
   refine zF ?_;refine aBh rfl rfl (zZ aAr H) ?_;rintro _ _ ⟨b,rfl,H⟩;refine(yH (zK (z _ _ ?_)));refine yI λ_ A=>?_
   refine zF ?_;refine yM rfl rfl (xA (v:= .int _ _) rfl) ?_;refine yM rfl rfl (vI (c:=((18446744073709551616-u:Nat):Int)) xu2 xu120 rfl (by rw [IntKind.wrap_u64];omega)) ?_;refine yM rfl rfl (yS (v:= .int _ _) rfl) ?_;refine(yH (zK (A _ _ ?_)));refine yI λ_ B=>?_
   refine yI λ_ C=>?_
   refine zF ?_;refine yM rfl rfl (xA (v:= .int _ _) rfl) ?_;refine yM rfl rfl (nS rfl rfl) ?_;refine(yH (zK (C _ _ ?_)))
   first |refine wF rfl (λc3=>?_) (λc3=>?_)|refine mX rfl (λc3=>?_) (λc3=>?_)
   rotate_left
   ·exfalso;omega
   refine zF ?_;refine yM rfl rfl (xA (v:= .int _ _) rfl) ?_;refine yM rfl rfl (Do_neg (a:=((18446744073709551616-u:Nat):Int)) (c:=(u:Int)) rfl (by rw [IntKind.wrap_u64];omega)) ?_;refine yM rfl rfl (yS (v:= .int _ _) rfl) ?_;refine(yH (zK (B _ _ ?_)));refine yI λ_ l=>?_
   refine zF ?_;refine yM rfl rfl (xA (v:= .int _ _) rfl) ?_;have M:=H;refine eP rfl rfl (zW aIt rfl) (Fdrw (u:Int) _ (nT (by omega) d) _ _ _ (H.W [] [0] (by decide) rfl)) ?_;rintro _ _ ⟨rfl,G⟩;have H:=M.step (G.only:Only [] _ _);refine⟨_,rfl,?_⟩;refine yM rfl rfl (yS (v:= .int _ _) rfl) ?_;refine(yH (zK (l _ _ ?_)));refine yI λ_ n=>?_
   refine zF ?_;refine yM rfl rfl (xA (v:= .int _ _) rfl) ?_;refine yM rfl rfl (qU (c:=((1+Lib.nDigits u:Nat):Int)) rfl rfl (by rw [IntKind.wrap_i64];omega)) ?_;refine yM rfl rfl (qO (i:=1) (j:=Lib.nDigits u) (m:=1) aBn aHb rfl rfl rfl rfl rfl (by omega) (by omega) rfl) ?_;refine yM rfl rfl (xA (v:= .int _ _) rfl) ?_;refine eP rfl rfl (zW aIe rfl) (fmt_c1 (H.V (i:=1) rfl) (by omega) d) ?_;rintro _ _ ⟨rfl,k,_,Q,rfl,R⟩;have H:=H.wr (i:=1) rfl (Wr.put1 (H.V (i:=1) rfl) Q k);refine⟨_,rfl,?_⟩;refine(yH (zK (n _ _ ?_)));refine yI λ_ _=>?_
   refine yI λ_ o=>?_
   refine zF ?_;refine yM rfl rfl (xA (v:= .int _ _) rfl) ?_;refine yM rfl rfl (nS rfl rfl) ?_;refine(yH (zK (o _ _ ?_)))
   first |refine wF rfl (λc4=>?_) (λc4=>?_)|refine mX rfl (λc4=>?_) (λc4=>?_)
   rotate_left
   ·exfalso;omega
   refine yI λ_ p=>?_
   refine zF ?_;refine yM rfl rfl (aJz (j:=0) (m:=0) aBn aHb rfl rfl (by decide) (by decide) rfl rfl) ?_;refine RL_exU rfl (yE H 1 rfl aHb rfl (v:= .int .u8 45) rfl rfl (by simp [putCells])) ?_;rintro _ H;refine(yH (zK (p _ _ ?_)));refine yI λ_ q=>?_
   refine zF ?_;refine yM rfl rfl (xA (v:= .int _ _) rfl) ?_;refine yM rfl rfl (qU (c:=((1+Lib.nDigits u:Nat):Int)) rfl rfl (by rw [IntKind.wrap_i64];omega)) ?_;refine yM rfl rfl (qR (h:=1+Lib.nDigits u) aBn aHb rfl rfl (by omega) (by decide)) ?_;refine yM rfl rfl (uV (F:=λ_=>True) (xl:=nums (45::Lib.decDigits u)) xu37 xu5 xu9 rfl ⟨_,kW.2 rfl,by rw [g];exact Blk.slo (H.V (i:=1) rfl) (aEo R (by omega)) (by show(List.map _ _).length=_;rw [List.length_map,g];exact(Nat.mul_one _).symm) (by omega) (by rw [maxLen_eq];omega)⟩) ?_;refine yM rfl rfl (yS (v:= .string _) rfl) ?_;refine(yH (zK (q _ _ ?_)));rw [str_numsF];refine(zJ (zG (zG (pI (v1:= .string _) rfl rfl ?_))));exact⟨rfl,H.U [] (by decide)⟩
 ·exact absurd rfl r
theorem Fdxw (a g:Int) (r:Str) (b:Fdx a g=some r) (O S:List Nat) (w:World) (H:Hd O w w S [.fz (.at 1 0 ((Fl.arr 20 (Fl.int .u64)).f zD))]):
    Calls Tryz.prog 111 ([.int .i64 a,.int .i64 g]:List Value).toArray w λe w'=>e= .returned (.string (bs r))/\Hd O w w' S []:=by
 unfold Fdx at b;split at b;rename_i c;obtain⟨rfl,_,c2⟩:=c;have h:=oI b;subst h;unfold Lib.itoa;by_cases d:a<0;obtain⟨u,rfl,i⟩: ∃u:Nat,a= -(u:Int)/\a.natAbs=u:=⟨a.natAbs,by omega,rfl⟩;rw [if_pos d,i];exact Fgj u (by omega) (by omega) O S w H;obtain⟨u,rfl⟩: ∃u:Nat,a=u:=⟨a.toNat,by omega⟩;rw [if_neg d,Int.toNat_natCast];exact Fgc u (by omega) O S w H;cases b
end Go.Proofs.YthgccglopkgghaaGreatDoor.E
