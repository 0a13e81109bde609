/- Laws that the claim stands on; no condition beyond those stated. -/
import Derived.Test.YtibkjjklfhfipacGreatDoorXVq
namespace Go.Lf
theorem str_nums (s:Str):str' (nums s)=s:=by
 unfold str' nums;rw [List.map_map]
 conv=>rhs;rw [<-List.map_id s]
 apply List.map_congr_left;intro _ _;simp
end Go.Lf
namespace Go.Proofs.YtibkjjklfhfipacGreatDoor.E
open Go.RowKit Go.OB Go.Lf Go.Sort Go.Shelf Go.Proofs
theorem xu2:Tryz.prog.underlying 2=some (.int .i64):=Tryz.underlying2
theorem fmt_c1 {w:World}{b u:Nat}(c:Blk w b (List.replicate 24 (.int .u8 0)) 178)(_:1<=u)(a:u<18446744073709551616):
  Calls Tryz.prog 123 #[.slice (some ⟨b,1,none⟩) (Lib.nDigits u) 23,.int .u64 (u:Int)] w λe w'=>e= .returned (.tuple #[])/\ ∃k i d,w'=(putRow aMr w b 1 d).drewN k/\Lib.FmtInv (Lib.nDigits u) u 0 i d:=by
 have n:=Lib.nDigits_le20 u a;have l:Holds (λ(b:UInt8)=>Value.int .u8 (b.toNat:Int)) w b 1 (Array.replicate (Lib.nDigits u) (0:UInt8)):=λj f=>by
  rw [Array.size_replicate]at f;refine⟨?_,c.frozen _⟩;rw [getElem!_pos _ j (by rw [Array.size_replicate];exact f),Array.getElem_replicate];refine c.cell ?_;rw [List.getElem?_replicate,if_pos (by omega)];rfl
 have q:=Any.internal_strconv_formatBase10 aTa b 1 23 u (Array.replicate (Lib.nDigits u) 0) w l (by rw [Array.size_replicate];exact Lib.lt_pow_nDigits u) a (by rw [Array.size_replicate];omega);rw [Array.size_replicate]at q;exact q
theorem Wr.put1 {w:World}{b:Nat}{cs:List Value}{T:TypeId} (a:Blk w b cs T) (d:Array UInt8) (k:Nat):Wr w ((putRow aMr w b 1 d).drewN k) b (putCells aMr 1 d cs.toArray).toList T:=by
 have f:=a.lt;unfold Blk at a;refine⟨?_,⟨rfl,rfl,rfl,?_,λi _ h=>?_⟩,?_⟩;unfold Blk;rw [World.heap_drewN];simp [putRow,mapBlock,Array.getElem?_modify,a,onCells];rw [World.heap_drewN];simp;rw [World.heap_drewN];have c:b≠i:=λe=>h (by simp [e]);simp [putRow,mapBlock,Array.getElem?_modify,c];rw [World.heap_drewN];simp
theorem aYl {u c:Nat}{a:Array UInt8} (h:Lib.FmtInv (Lib.nDigits u) u 0 c a) (k:Lib.nDigits u<=23):
  ((putCells aMr 1 a (List.replicate 24 (Value.int .u8 0)).toArray).toList.drop 1).take (Lib.nDigits u*1)=ints .u8 (nums (Lib.decDigits u)):=by
 have d:a.size=Lib.nDigits u:=h.size;have hd:=Lib.decDigits_length u;apply List.ext_getElem?;intro j;rw [Nat.mul_one]
 by_cases b:j<Lib.nDigits u
 ·rw [List.getElem?_take,if_pos b,List.getElem?_drop];have q:=Lib.row_is_numeral h j (by omega);have e:(ints .u8 (nums (Lib.decDigits u)))[j]? =some (aMr a[j]!):=by
   rw [<-q];simp [ints,nums,aMr,hd,b]
  rw [e];simp only [putCells,Array.getElem?_toList,Array.getElem?_mapIdx];have f:1+j<24:=by omega
  have i:1+j<1+a.size:=by omega
  simp [f,d,b]
 ·rw [List.getElem?_eq_none (by rw [List.length_take];omega),List.getElem?_eq_none (by simp [ints,nums];omega)]
theorem Fddw (x I:Int) (r:Str) (l:Fdd x I=some r) (O S:List Nat) (w:World) (H:Hd O w w S [.fz (.at 0 0 ((Fl.arr 20 (Fl.int .u64)).f zW))]):
  Calls Tryz.prog 98 ([.int .i64 x,.int .i64 I]:List Value).toArray w λe w'=>e= .returned (.string (bs r))/\Hd O w w' S []:=by
 unfold Fdd at l;split at l
 rotate_left
 ·cases l
 rename_i c;obtain⟨rfl,n,c2⟩:=c;have K:=oI l;subst K;obtain⟨u,rfl⟩: ∃u:Nat,x=u:=⟨x.toNat,by omega⟩;rw [Int.toNat_natCast];have a:u<18446744073709551616:=by omega
 have J:=Lib.nDigits_le20 u a;have d:(nums (Lib.decDigits u)).length=Lib.nDigits u:=by rw [nM,Lib.decDigits_length]
 refine rC 54 Tryz.func98 rfl rfl rfl ?_;refine xJ λ_ y=>?_
 refine zF ?_;refine xQ rfl rfl (yJ rfl) ?_;refine(yK (zG (y _ _ ?_)));refine xJ λ_ _=>?_
 refine xJ λ_ z=>?_
 refine zF ?_;refine xQ rfl rfl (bF (v:= .int _ _) rfl) ?_;refine xQ rfl rfl (aHi rfl rfl) ?_;refine(yK (zG (z _ _ ?_)))
 first |refine aUa rfl (λn=>?_) (λn=>?_)|refine aFf rfl (λn=>?_) (λn=>?_)
 ·refine xJ λ_ A=>?_
  refine xJ λ_ B=>?_
  refine zF ?_;refine xQ rfl rfl (bF (v:= .int _ _) rfl) ?_;refine xQ rfl rfl (aOc rfl rfl) ?_;refine aTi (b:=decide ((0:Int)<=(u:Int))) rfl rfl rfl (λc2=>?_) (λc2=>?_)
  rotate_left
  ·exact absurd (Int.natCast_nonneg u) (of_decide_eq_false c2)
  refine xQ rfl rfl (bF (v:= .int _ _) rfl) ?_;refine xQ rfl rfl (wZ rfl rfl) ?_;refine xQ rfl rfl (aT (v:= .bool _) rfl rfl) ?_;refine(yK (zG (B _ _ ?_)))
  first |refine aUa rfl (λc2=>?_) (λc2=>?_)|refine aFf rfl (λc2=>?_) (λc2=>?_)
  ·refine xJ λM h=>?_
   refine zF ?_;refine xQ rfl rfl (bF (v:= .int _ _) rfl) ?_;refine xH rfl rfl (yG xen121 rfl) (bFa (by omega) w) ?_;rintro _ _ ⟨rfl,rfl⟩;refine⟨_,rfl,?_⟩;refine xQ rfl rfl (yJ (v:= .string _) rfl) ?_;refine(yK (zG (h _ _ ?_)));refine(zI (zH (zH (aIg (v1:= .string _) rfl rfl ?_))));exact⟨rfl,H.U [] (by decide)⟩
  ·refine(yI (zG (A _ _ ?_)));refine xJ λM h=>?_
   refine zF ?_;refine vF rfl rfl (yQ bAs H) ?_;rintro _ _ ⟨b,rfl,H⟩;refine(yK (zG (h _ _ ?_)));refine xJ λ_ C=>?_
   refine zF ?_;refine xQ rfl rfl (bF (v:= .int _ _) rfl) ?_;refine xQ rfl rfl (jG (c:=(u:Int)) xu2 xu169 rfl (by rw [IntKind.wrap_u64];omega)) ?_;refine xQ rfl rfl (yJ (v:= .int _ _) rfl) ?_;refine(yK (zG (C _ _ ?_)));refine xJ λ_ D=>?_
   refine xJ λ_ E=>?_
   refine zF ?_;refine xQ rfl rfl (bF (v:= .int _ _) rfl) ?_;refine xQ rfl rfl (wZ rfl rfl) ?_;refine(yK (zG (E _ _ ?_)))
   first |refine aUa rfl (λc3=>?_) (λc3=>?_)|refine aFf rfl (λc3=>?_) (λc3=>?_)
   ·exfalso;omega
   refine(yI (zG (D _ _ ?_)));refine xJ λ_ o=>?_
   refine zF ?_;refine xQ rfl rfl (bF (v:= .int _ _) rfl) ?_;have P:=H;refine xH rfl rfl (yG xen122 rfl) (Feew (u:Int) _ (aGo (by omega) a) _ _ _ (H.W [] [0] (by decide) rfl)) ?_;rintro _ _ ⟨rfl,G⟩;have H:=P.step (G.only:Only [] _ _);refine⟨_,rfl,?_⟩;refine xQ rfl rfl (yJ (v:= .int _ _) rfl) ?_;refine(yK (zG (o _ _ ?_)));refine xJ λ_ p=>?_
   refine zF ?_;refine xQ rfl rfl (bF (v:= .int _ _) rfl) ?_;refine xQ rfl rfl (uY (c:=((1+Lib.nDigits u:Nat):Int)) rfl rfl (by rw [IntKind.wrap_i64];omega)) ?_;refine xQ rfl rfl (aJb (i:=1) (j:=Lib.nDigits u) (m:=1) bHe xsz5 rfl rfl rfl rfl rfl (by omega) (by omega) rfl) ?_;refine xQ rfl rfl (bF (v:= .int _ _) rfl) ?_;refine xH rfl rfl (yG xen123 rfl) (fmt_c1 (H.V (i:=1) rfl) (by omega) a) ?_;rintro _ _ ⟨rfl,k,_,R,rfl,l⟩;have H:=H.wr (i:=1) rfl (Wr.put1 (H.V (i:=1) rfl) R k);refine⟨_,rfl,?_⟩;refine(yK (zG (p _ _ ?_)));refine xJ λ_ q=>?_
   refine xJ λ_ s=>?_
   refine zF ?_;refine xQ rfl rfl (bF (v:= .int _ _) rfl) ?_;refine xQ rfl rfl (wZ rfl rfl) ?_;refine(yK (zG (s _ _ ?_)))
   first |refine aUa rfl (λc4=>?_) (λc4=>?_)|refine aFf rfl (λc4=>?_) (λc4=>?_)
   ·exfalso;omega
   refine(yI (zG (q _ _ ?_)));refine xJ λ_ t=>?_
   refine zF ?_;refine xQ rfl rfl (bF (v:= .int _ _) rfl) ?_;refine xQ rfl rfl (uY (c:=((1+Lib.nDigits u:Nat):Int)) rfl rfl (by rw [IntKind.wrap_i64];omega)) ?_;refine xQ rfl rfl (aJb (i:=1) (j:=Lib.nDigits u) (m:=1) bHe xsz5 rfl rfl rfl rfl rfl (by omega) (by omega) rfl) ?_;refine xQ rfl rfl (aRb (F:=λ_=>True) (xl:=nums (Lib.decDigits u)) xu39 xu5 xu9 rfl ⟨_,vZ.2 rfl,by rw [d];exact Blk.slo (H.V (i:=1) rfl) (aYl l (by omega)) (by show(List.map _ _).length=_;rw [List.length_map,d];exact(Nat.mul_one _).symm) (by omega) (by rw [maxLen_eq];omega)⟩) ?_;refine xQ rfl rfl (yJ (v:= .string _) rfl) ?_;refine(yK (zG (t _ _ ?_)));rw [str_nums];refine(zI (zH (aIg (v1:= .string _) rfl rfl ?_)));exact⟨rfl,H.U [] (by decide)⟩
 ·exact absurd rfl n
end Go.Proofs.YtibkjjklfhfipacGreatDoor.E
