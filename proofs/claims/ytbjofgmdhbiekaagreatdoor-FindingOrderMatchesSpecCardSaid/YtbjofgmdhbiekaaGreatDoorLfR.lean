/- Laws that the claim stands on; no condition beyond those stated. -/
import Derived.Test.YtbjofgmdhbiekaaGreatDoorLfQ
import Derived.WideLaws
namespace Go.Lf
open Go.RowKit Go.OB
section
variable {P:Program}{N:Nat}{Q:Exit->Env->World->Prop}{ρ:Env}{w w0 w1 w':World}{O S:List Nat}{l l2:List Th}{i n0:Nat}{A:Nat->Prop}
def frm (O:List Nat)(l:List Th)(w0:World):Nat->Prop:=λb=>frees O l b/\b<w0.heap.size
structure Hm (n0:Nat)(A:Nat->Prop)(O:List Nat)(w0 w:World)(S:List Nat)(l:List Th):Prop where
 only:Only S w0 w
 holds: ∀it∈l,it.holds (frm O l w0) w
 own: ∀it∈l,∀b∈it.blocks,(w0.heap.size<=b\/b∈S)/\b<w.heap.size
 nd:(bks l).Nodup
 fo: ∀b∈O,b<w0.heap.size/\b∉S
 made: ∀i it,l[i]? =some it-> ∀c∈it.blocks,(i<n0/\c<w0.heap.size)\/(n0<=i/\A c)
theorem Hd.hm (H:Hd O w w S l):Hm l.length (λ_=>False) O w w S l:=
 ⟨H.only,λa hm=>Th.same (H.holds a hm) (λ_ h f=>⟨⟨h,f⟩,rfl⟩) (λ_ _=>rfl),H.own,H.nd,H.fo,λ_ a hi c j=> .inl ⟨(gS.1 hi).1,(H.own a (qS hi) c j).2⟩⟩
theorem Hm.hd (H:Hm n0 A O w0 w S l):Hd O w0 w S l:=
 ⟨H.only,λa hm=>Th.same (H.holds a hm) (λ_ h _=>⟨h.1,rfl⟩) (λ_ _=>rfl),H.own,H.nd,H.fo⟩
theorem Hm.V (H:Hm n0 A O w0 w S l){a:Th}(hi:l[i]? =some a):a.holds (frm O l w0) w:=H.holds a (qS hi)
theorem Hm.step (H:Hm n0 A O w0 w S l)(f:Only [] w w'):Hm n0 A O w0 w' S l:=
  ⟨H.only.trans (f.mono (by simp)),λc hm=>Th.same (H.holds c hm) (λb a h=>⟨a,wU f h⟩) (λb a=>wU f (H.own c hm b a).2),
   λc hm b a=>⟨(H.own c hm b a).1,Nat.lt_of_lt_of_le (H.own c hm b a).2 f.size⟩,H.nd,H.fo,H.made⟩
theorem Hm.Z (H:Hm n0 A O w0 w S l)(a:fJ w w'):Hm n0 A O w0 w' S l:=H.step (Only.of_below a)
theorem frm_fz {p:Fz}:frm O (l++[.fz p]) w0=frm O l w0:=by funext b;unfold frm;rw [aSl]
theorem Hm.fz (H:Hm n0 A O w0 w S l) (p:Fz) (j:p.p (frm O l w0) w):Hm n0 A O w0 w S (l++[.fz p]):=by
 refine⟨H.only,λa hm=>?_,λa hm=>?_,?_,H.fo,λi a hi c f=>?_⟩
 ·rw [frm_fz];rcases mA.1 hm with hm|hm
  ·exact H.holds a hm
  ·obtain rfl:=mS.1 hm;exact j
 ·rcases mA.1 hm with hm|hm
  ·exact H.own a hm
  ·obtain rfl:=mS.1 hm;simp [Th.blocks]
 ·rw [tC];simpa [bks,Th.blocks]using H.nd
 ·by_cases h:i<l.length
  ·rw [List.getElem?_append_left h]at hi;exact H.made i a hi c f
  ·rw [List.getElem?_append_right (by omega)]at hi;have:=qS hi;obtain rfl:=mS.1 this;simp [Th.blocks]at f
theorem Hm.fzs: ∀{l:List Th} (a:List Fz),Hm n0 A O w0 w S l->allp (frm O l w0) w a->Hm n0 A O w0 w S (l++a.map Th.fz)
 |l,[],H,_=>by simpa using H
 |l,p::a,H,h=>by
  have c:=H.fz p h.1;have f:=Hm.fzs (l:=l++[.fz p]) a c (by rw [frm_fz];exact h.2);simpa using f
theorem Hm.add {b:Nat}{cs:List Value}{T:TypeId} (H:Hm n0 A O w0 w S l) (D:fJ w w') (E:w0.heap.size<=b) (G: ¬A b) (I:Blk w' b cs T) {p:Th} (J:n0<=l.length) (j:p.blocks=[b]) (hh:p.holds (frm O l w0) w'):
  Hm n0 (λx=>x=b\/A x) O w0 w' S (l++[p]):=by
 have H:=H.Z D;have s:b∉bks l:=λhm=>by
  obtain⟨x,L,z⟩:=aI.1 hm;obtain⟨i,hi⟩:=List.getElem?_of_mem L;rcases H.made i x hi b z with h|h
  ·omega
  ·exact G h.2
 have C: ∀{c},frm O l w0 c->frm O (l++[p]) w0 c:=λ {c} f=>⟨⟨f.1.1,by
  rw [tC,mA];rintro(h|h)
  ·exact f.1.2 h
  ·have:c=b:=by simpa [bks,j]using h
   have:=f.2;omega⟩,f.2⟩
 have B:b<w'.heap.size:=(Array.getElem?_eq_some_iff.1 I).1;refine⟨H.only,λx hm=>?_,λx hm c f=>?_,?_,H.fo,λi x hi c f=>?_⟩
 ·rcases mA.1 hm with hm|hm
  ·exact Th.same (H.holds x hm) (λc f _=>⟨C f,rfl⟩) (λ_ _=>rfl)
  ·obtain rfl:=mS.1 hm;exact Th.same hh (λc f _=>⟨C f,rfl⟩) (λ_ _=>rfl)
 ·rcases mA.1 hm with hm|hm
  ·exact H.own x hm c f
  ·obtain rfl:=mS.1 hm;rw [j]at f;obtain rfl:=mS.1 f;exact⟨.inl E,B⟩
 ·rw [tC,List.nodup_append];refine⟨H.nd,by simp [bks,j],λ_ M c f=>?_⟩;have:c=b:=by simpa [bks,j]using f
  subst this;exact λe=>s (e▸M)
 ·by_cases h:i<l.length
  ·rw [List.getElem?_append_left h]at hi;rcases H.made i x hi c f with h|h
   ·exact .inl h
   ·exact .inr ⟨h.1,.inr h.2⟩
  ·rw [List.getElem?_append_right (by omega)]at hi;obtain rfl:=mS.1 (qS hi);rw [j]at f;obtain rfl:=mS.1 f;exact .inr ⟨by omega,.inl rfl⟩
def okM (B:Nat):List MxM.Kd->Prop
 | []=>True
 |k::l=>(match k with | .mk B'=>B'=B|_=>True)/\okM B l
theorem aIx {B:Nat}: ∀{κ:List MxM.Kd},okM B κ-> ∀{i c},MxM.kdOf κ i= .mk c->c=B
 | [],_,i,c,h=>by simp [MxM.kdOf]at h
 |k::κ,a,0,c,h=>by
  have:k= .mk c:=by simpa [MxM.kdOf]using h
  subst this;exact a.1
 |k::κ,a,i+1,c,h=>aIx a.2 (i:=i) (by simpa [MxM.kdOf]using h)
theorem WP_mixM {id:Nat}{c:List Oper}(_H:Hd O w w S l)(σ:List Nat)(κ:List MxM.Kd)(a:okM w.heap.size κ)(hm:P.follows .mixedOrders=true)(s:Region.noSelect c.toArray=true)(f:MxM.edgesB .any c.toArray=true)(z:MxM.pairB .any c.toArray (MxM.kdOf κ) σ=true)
  (j:σ.isPerm (List.range c.length)=true)(h:MxM.XL P (λw'=>Only S w w') N c.toArray κ (λ_ ρ w=>Q .normal ρ w) (some λ_=>False) σ (MxM.sel c σ) ρ w):WP P N (.region id c.toArray true) Q ρ w:=
 MxM.WP_mix σ κ (λi _ C w' p=>by rw [aIx a C];exact p.size) hm s f z j (λ_ _=>oS _ _) (Only.refl S w) h
theorem WP_forkM {id:Nat}{c:List Oper}{j E:List Nat}{l1:List Th}(_H:Hd O w w S l)(_H1:Hd E w w j l1)(pre:List Nat)(u v:Nat)(post l2:List Nat)(κ:List MxM.Kd)(p:okM w.heap.size κ)(hm:P.follows .mixedOrders=true)(G:Region.noSelect c.toArray=true)(z:MxM.edgesB .any c.toArray=true)(H:MxM.forkB .any c.toArray (MxM.kdOf κ) pre u v post=true)(s:MxM.barB .any c.toArray (MxM.kdOf κ) (pre++u::v::post) l2=true)(C:MxM.pairB .any c.toArray (MxM.kdOf κ) l2=true)
  (D:(pre++u::v::(post++l2)).isPerm (List.range c.length)=true)
  (h:MxM.XL P (λw'=>Only j w w') N c.toArray κ (λM ρ a=>MxM.XL P (λw'=>Only j w w') N c.toArray κ (λ_ ρ a=>Only S w a/\MxM.XL P (λw'=>Only S w w') N c.toArray κ (λ_ ρ w=>Q .normal ρ w) none l2 (MxM.sel c l2) ρ a) M (u::v::post) (MxM.sel c (u::v::post)) ρ a/\MxM.XL P (λw'=>Only j w w') N c.toArray κ (λ_ ρ a=>Only S w a/\MxM.XL P (λw'=>Only S w w') N c.toArray κ (λ_ ρ w=>Q .normal ρ w) none l2 (MxM.sel c l2) ρ a) M (v::u::post) (MxM.sel c (v::u::post)) ρ a) (some λ_=>False) pre (MxM.sel c pre) ρ w):WP P N (.region id c.toArray true) Q ρ w:=
 MxM.WP_fork (I:=λw'=>Only j w w') (I0:=λw'=>Only S w w') pre u v post l2 κ (λi B s w' f=>by rw [aIx p s];exact f.size) (λi B s w' f=>by rw [aIx p s];exact f.size) hm G z H s C D (λ_ _=>oS _ _) (λ_ _=>oS _ _) (Only.refl j w) h
end
section
variable {P:Program}{N:Nat}{ops:Array Oper}{κ:List MxM.Kd}{K:MxM.Mm->Env->World->Prop}{k:Nat}{σ:List Nat}{rest:List Oper}{ρ:Env}{w w0:World}{v:Value}{d:Nat}{ty t e:TypeId}{pos:String}{af:Array Edge}{g:Option (Nat×Bool)}{x:Operand}
variable {O S:List Nat}{l:List Th}{α:Type}{r:Rp α}{xl:List α}{cs:List Value}{A:Nat->Prop}{n0:Nat}
theorem Hm.alloc_rule (H:Hm n0 A O w0 w S l)(c:Nat.ble n0 l.length=true)(j:MxM.kdOf κ k= .mk w0.heap.size)(p:fM N ops ρ ⟨some d,.alloc t,ty,pos,af,g⟩=true)(hd:Nat.blt d N=true)(a:OB.Zero P t cs)
  (n: ∀b w',Hm n0 (λx=>x=b\/A x) O w0 w' S (l++[.blk b cs t])->MxM.XL P (λw'=>Only S w0 w') N ops κ K (some λx=>x=b\/A x) σ rest (upd ρ d (.pointer (some ⟨b,0,none⟩))) w'):
  MxM.XL P (λw'=>Only S w0 w') N ops κ K (some A) (k::σ) (⟨some d,.alloc t,ty,pos,af,g⟩::rest) ρ w:=by
 refine MxM.XL_mk (m:= .ptr) (cs:=cs) (T:=t) (λ_ _=>oS _ _) j p hd (λw' _=>?_) λb w' s z B h=>n b w' (H.add s z B h (Nat.le_of_ble_eq_true c) rfl h)
 unfold OB.Zero at a
 cases hi:P.info? t with
 |none=>rw [hi]at a;cases a
 |some f=>
  rw [hi]at a
  cases hzz:f.zero with
  |none=>simp [hzz]at a
  |some _=>
   simp [hzz]at a;unfold Do;simp [execOp,Instr.alloc,zeroValue,typeInfo,hi,hzz,newVar,newRow,newObj,Sem.run,<-a,MxM.Mk.val]
end
end Go.Lf
namespace Go.OB
open Go.RowKit
end Go.OB
namespace Go.Lf
section
variable {α:Type}{F:Nat->Prop}{w:World}
def Rp.bot (n:Nat):Rp α:=⟨n,λ_ _ _ _=>False,λh=>h.elim,λh=>h.elim,λ_ h=>h⟩
def Rp.le (a b:Rp α):Prop:=a.sz=b.sz/\ ∀F w cs x,a.rd F w cs x->b.rd F w cs x
theorem aPm {a b:Rp α}(h:a.le b): ∀{l:List α}{cs:List Value},rows a F w cs l->rows b F w cs l
 | [],_,q=>q
 |_::_,_,⟨c,d,e,f,j⟩=>⟨c,d,e,h.2 _ _ _ _ f,aPm h j⟩
theorem slf_le {a b:Rp α}(h:a.le b){v:Value}{l:List α}:SlF a F w v l->SlF b F w v l:=λ⟨xs,c,f,j⟩=>⟨xs,aPm h c,h.1▸f,j⟩
def Rp.lim (f:Nat->Rp α)(n:Nat)(h: ∀i,(f i).sz=n):Rp α:=
 ⟨n,λF w cs x=> ∃i,(f i).rd F w cs x,λ⟨i,q⟩=>((f i).len q).trans (h i),λ⟨i,q⟩=>(f i).one q,λa ⟨i,q⟩=>⟨i,(f i).mono a q⟩⟩
theorem le_lim {f:Nat->Rp α}{n:Nat}{h: ∀i,(f i).sz=n}(i:Nat):(f i).le (Rp.lim f n h):=⟨h i,λ_ _ _ _ q=>⟨i,q⟩⟩
theorem aYf {f:Nat->Rp α}(hm: ∀i,(f i).le (f (i+1))){i:Nat}: ∀d,(f i).le (f (i+d))
 |0=>⟨rfl,λ_ _ _ _ q=>q⟩
 |d+1=>⟨(aYf hm d).1.trans (hm (i+d)).1,λ_ _ _ _ q=>(hm (i+d)).2 _ _ _ _ ((aYf hm d).2 _ _ _ _ q)⟩
theorem aSw {f:Nat->Rp α}{n:Nat}{h: ∀i,(f i).sz=n}(hm: ∀i,(f i).le (f (i+1))): ∀{l:List α}{cs:List Value},rows (Rp.lim f n h) F w cs l-> ∃i,rows (f i) F w cs l
 | [],_,q=>⟨0,q⟩
 |_::_,_,⟨c,d,e,⟨i,a⟩,p⟩=>by
  obtain⟨j,s⟩:=aSw hm p;refine⟨i+j,c,d,e,(aYf hm j).2 _ _ _ _ a,?_⟩;have q:=aPm (aYf hm (i:=j) i) s;rwa [Nat.add_comm]at q
theorem slf_lim {f:Nat->Rp α}{n:Nat}{h: ∀i,(f i).sz=n}(hm: ∀i,(f i).le (f (i+1))){v:Value}{l:List α}:SlF (Rp.lim f n h) F w v l-> ∃i,SlF (f i) F w v l:=λ⟨xs,a,c,j⟩=>by
 obtain⟨i,q⟩:=aSw hm a;exact⟨i,xs,q,by rw [h i];exact c,j⟩
end
open Go.RowKit Go.OB
section
variable {P:Program}{ρ:Env}{w:World}{d:Option Tmp}{x lo' hi':Operand}{t u ty:TypeId}{pos:String}{af:Array Edge}{g:Option (Nat×Bool)}{k kl kh:IntKind}{lo hi q:Int}{s1 s2:Str}
theorem bs_cut (s:Str)(i j:Nat):(bs s).extract i j=bs ((s.drop i).take (j-i)):=by
 apply ByteArray.ext;unfold bs;simp only [ByteArray.data_extract,List.extract_toArray,List.extract_eq_take_drop]
theorem aOu (a:P.underlying t=some .string) (p:0<=lo) (hh:lo<=hi) (s:hi<=s1.length) (l h:Option Value) (c:h=none/\hi=(s1.length:Int)\/h=some (.int kh hi)) (f:l=none/\lo=0\/l=some (.int kl lo)):
  (Instr.slice t (.string (bs s1)) l h none).run P w= .ok (.string (bs ((s1.drop lo.toNat).take (hi-lo).toNat))) w:=by
 have D:((bs s1).size:Int)=s1.length:=by rw [qW]
 have e:(hi-lo).toNat=hi.toNat-lo.toNat:=by omega
 have j:0<=hi:=by omega
 have B:(hi.toNat:Int)=hi:=Int.toNat_of_nonneg j;rw [e];have z:=bs_cut s1 lo.toNat hi.toNat;rw [<-z];rcases c with ⟨rfl,c⟩|rfl<;>rcases f with ⟨rfl,f⟩|rfl
 ·rw [z,f,c];simp [Instr.slice,Instr.sliceBounds,run_underlying a]
 ·have C:lo<=s1.length:=by omega
  simp [Instr.slice,Instr.sliceBounds,Instr.sliceBound,asIntOf,run_underlying a,c,qW,p,C]
 ·simp [Instr.slice,Instr.sliceBounds,Instr.sliceBound,asIntOf,run_underlying a,qW,j,s,f]
 ·simp [Instr.slice,Instr.sliceBounds,Instr.sliceBound,asIntOf,run_underlying a,qW,j,s,p,B,hh]
theorem Do_cut_lh (a:P.underlying t=some .string)(c:ev ρ x= .string (bs s1))(f:ev ρ lo'= .int kl lo)(hh:ev ρ hi'= .int kh hi)(h:sub' s1 lo hi=some s2):Do P ⟨d,.slice t x (some lo') (some hi') none,ty,pos,af,g⟩ ρ w (.string (bs s2)) w:=by
 obtain⟨j,p,s,rfl⟩:=aEi h;have z: ∀n e,P.underlying t≠some (.array n e):=by intro n e q;rw [a]at q;cases q
 unfold Do;simp [execOp,c,f,hh,run_sliceAt_string w t _ _ _ _ a,aOu a j p s _ _ (.inr rfl) (.inr rfl)]
theorem aLl (a:P.underlying t=some .string)(c:ev ρ x= .string (bs s1))(f:ev ρ lo'= .int kl lo)(h:sub' s1 lo (s1.length:Int)=some s2):Do P ⟨d,.slice t x (some lo') none none,ty,pos,af,g⟩ ρ w (.string (bs s2)) w:=by
 obtain⟨j,p,s,rfl⟩:=aEi h;unfold Do;simp [execOp,c,f,run_sliceAt_string w t _ _ _ _ a,aOu (kl:=kl) (kh:= .i64) (hi:=s1.length) a j p s (some (.int kl lo)) none (.inl ⟨rfl,rfl⟩) (.inr rfl)]
theorem Do_cut_h (a:P.underlying t=some .string)(c:ev ρ x= .string (bs s1))(hh:ev ρ hi'= .int kh hi)(h:sub' s1 0 hi=some s2):Do P ⟨d,.slice t x none (some hi') none,ty,pos,af,g⟩ ρ w (.string (bs s2)) w:=by
 obtain⟨f,j,p,rfl⟩:=aEi h;unfold Do;simp [execOp,c,hh,run_sliceAt_string w t _ _ _ _ a,aOu (kl:= .i64) (kh:=kh) (lo:=0) a f j p none (some (.int kh hi)) (.inr rfl) (.inl ⟨rfl,rfl⟩)]
end
section
variable {P:Program}{ρ:Env}{w:World}{F:Nat->Prop}{d:Option Tmp}{x:Operand}{t u ty:TypeId}{pos:String}{af:Array Edge}{g:Option (Nat×Bool)}{α:Type}{n b o:Nat}{e:Fl α}{X:Arr n α}
theorem aDn {r:Rp α} (B: ∀F w c x,r.rd F w c x↔c=e.f x) (j:r.sz=e.sz) (C:P.underlying t=some (.array n u)) (D:Sz P u e.sz) (E:F b) (G:b<w.heap.size) (H:Cells w ⟨b,o,none⟩ ((Fl.arr n e).f X)) (I:ev ρ x= .pointer (some ⟨b,o,none⟩)) (s:n<=9223372036854775807):
  ∃z,(∀w',Do P ⟨d,.slice t x none none none,ty,pos,af,g⟩ ρ w' z w')/\SlF r F w z X.l:=by
 refine⟨.slice (some ⟨b,o,none⟩) n n,λw'=>Do_slicea C D I,?_⟩;have a: ∀(l:List α),rows r F w (l.flatMap e.f) l:=by
  intro l
  induction l with
  |nil=>rfl
  |cons x l J=>exact⟨e.f x,l.flatMap e.f,rfl,(B _ _ _ _).2 rfl,J⟩
 refine⟨_,a _,⟨?_,.inr ⟨⟨b,o,none⟩,n,by rw [X.h],by rw [X.h];omega,by rw [maxLen_eq];omega,λ_=>rfl,?_⟩⟩,λ_ L p=>?_⟩
 ·rw [aBl,j]
 ·exact H
 ·obtain rfl:L=b:=by simpa [qG]using p.symm
  exact⟨E,G⟩
end
def isIf (v:Value)(b:Bool):Prop:=match b with
 |true=>v= .nilIface
 |false=> ∃T x,v= .iface T x
def Fz.ic (v:Value)(b:Bool):Fz:=⟨λ_ _=>isIf v b,λ_ h=>h⟩
section
variable {P:Program}{ρ:Env}{w:World}{d:Option Tmp}{x y:Operand}{t u ty:TypeId}{pos:String}{af:Array Edge}{g:Option (Nat×Bool)}{v:Value}{b:Bool}
theorem Do_eqlif (a:P.underlying t=some (.interface (P.methodsAt t)))(h:isIf v b)(c:ev ρ x=v):Do P ⟨d,.binOp .eql t x (.const .nilIface) u,ty,pos,af,g⟩ ρ w (.bool b) w:=by
 have f:ev ρ (.const .nilIface)= .nilIface:=rfl
 cases b with
 |true=>obtain rfl:v= .nilIface:=h;unfold Do;simp [execOp,c,f,eqGuard_nil_constR,run_eql_nil_nil w t a]
 |false=>obtain⟨T,z,rfl⟩:=h;unfold Do;simp [execOp,c,f,eqGuard_at_iface,run_eql_held_nil w t T z a]
end
section
variable {P:Program}{ρ:Env}{w:World}{d:Option Tmp}{x:Operand}{t u ty:TypeId}{pos:String}{af:Array Edge}{g:Option (Nat×Bool)}{m n i:Nat}{v:Value}{xs ys:List Value}
def aCd (P:Program)(t:TypeId)(i:Nat):Option (Nat×TypeId):=match P.underlying t with
 |some (.struct a)=>a[i]?.map λf=>(f.offset,f.type)
 |_=>none
theorem run_field (h:aCd P t i=some (m,u)) (w:World):(Instr.field t (.agg xs.toArray) i).run P w=(part u xs.toArray m).run P w:=by
 unfold aCd at h;split at h
 ·rename_i a c
  cases hf:a[i]? with
  |none=>rw [hf]at h;cases h
  |some _=>
   rw [hf]at h;simp only [Option.map_some,Option.some.injEq,Prod.mk.injEq]at h;obtain⟨rfl,rfl⟩:=h;simp [Instr.field,run_underlying c,hf,asAgg]
 ·cases h
theorem aGa (h:aCd P t i=some (m,u))(a:aAo P u)(c:ev ρ x= .agg xs.toArray)(f:(xs.drop m).take 1=[v]):Do P ⟨d,.field t x i,ty,pos,af,g⟩ ρ w v w:=by
 unfold Do;simp [execOp,c,run_field h,aLp a (xs:=xs.toArray) (i:=m) (v:=v) (by simpa using f) w]
theorem aPb {f:FuncId}{first:Array Operand}{us:List Value}(a:first.toList.map (ev ρ)=us):Do P ⟨d,.makeFunc (.func f) first #[],ty,pos,af,g⟩ ρ w (.func (.func f) us.toArray #[]) w:=by
 have e:first.map (ev ρ)=us.toArray:=by rw [<-a];apply Array.ext';simp
 unfold Do;simp [execOp,Instr.makeFunc,e]
end
def Fz.gi (b:Nat):Fz:=⟨λF w=>F b/\b<w.heap.size/\ ∃v,Cells w ⟨b,0,none⟩ [v]/\(v= .nilIface\/ ∃T x,v= .iface T x),λa ⟨c,f,v,h,j⟩=>have q:=Cells.same a c f h;⟨q.1,q.2.1,v,q.2.2,j⟩⟩
end Go.Lf
