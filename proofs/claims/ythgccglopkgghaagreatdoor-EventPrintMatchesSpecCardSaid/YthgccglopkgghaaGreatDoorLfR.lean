/- Laws that the claim stands on; no condition beyond those stated. -/
import Derived.Test.YthgccglopkgghaaGreatDoorLfQ
import Derived.WideLaws
namespace Go.Lf
open Go.RowKit Go.OB
section
variable {P:Program}{N:Nat}{Q:Exit->Env->World->Prop}{ρ:Env}{w w0 w1 w':World}{O S:List Nat}{l l2:List Th}{i n0:Nat}{A:Nat->Prop}
def frm (O:List Nat)(l:List Th)(w0:World):Nat->Prop:=λb=>frees O l b/\b<w0.heap.size
structure Hm (n0:Nat)(A:Nat->Prop)(O:List Nat)(w0 w:World)(S:List Nat)(l:List Th):Prop where
 only:Only S w0 w
 holds: ∀it∈l,it.holds (frm O l w0) w
 own: ∀it∈l,∀b∈it.blocks,(w0.heap.size<=b\/b∈S)/\b<w.heap.size
 nd:(bks l).Nodup
 fo: ∀b∈O,b<w0.heap.size/\b∉S
 made: ∀i it,l[i]? =some it-> ∀c∈it.blocks,(i<n0/\c<w0.heap.size)\/(n0<=i/\A c)
theorem Hm.V (H:Hm n0 A O w0 w S l){a:Th}(hi:l[i]? =some a):a.holds (frm O l w0) w:=H.holds a (mG hi)
theorem Hm.step (H:Hm n0 A O w0 w S l)(h:Only [] w w'):Hm n0 A O w0 w' S l:=
  ⟨H.only.trans (h.mono (by simp)),λc f=>Th.same (H.holds c f) (λb a j=>⟨a,pO h j⟩) (λb a=>pO h (H.own c f b a).2),
   λc f b a=>⟨(H.own c f b a).1,Nat.lt_of_lt_of_le (H.own c f b a).2 h.size⟩,H.nd,H.fo,H.made⟩
theorem Hm.Z (H:Hm n0 A O w0 w S l)(a:gZ w w'):Hm n0 A O w0 w' S l:=H.step (Only.of_below a)
def okM (B:Nat):List MxM.Kd->Prop
 | []=>True
 |k::l=>(match k with | .mk B'=>B'=B|_=>True)/\okM B l
theorem aDy {B:Nat}: ∀{κ:List MxM.Kd},okM B κ-> ∀{i c},MxM.kdOf κ i= .mk c->c=B
 | [],_,i,c,h=>by simp [MxM.kdOf]at h
 |k::κ,a,0,c,h=>by
  have:k= .mk c:=by simpa [MxM.kdOf]using h
  subst this;exact a.1
 |k::κ,a,i+1,c,h=>aDy a.2 (i:=i) (by simpa [MxM.kdOf]using h)
theorem Hd.firmB {b:Nat}{cs:List Value}{T:TypeId}{l1:List Th}{a c:List Nat}(H:Hd O w w S l)(f:Hd c w w a l1)(hi:l[i]? =some (.blk b cs T))(h:b∈c): ∀w',Only a w w'->Blk w' b cs T:=λ_ j=>
 wK (H.V hi) (j.block b (f.fo b h).1 (f.fo b h).2)
theorem WP_forkM {id:Nat}{c:List Oper}{j D:List Nat}{l1:List Th}(_H:Hd O w w S l)(_H1:Hd D w w j l1)(pre:List Nat)(u v:Nat)(post l2:List Nat)(κ:List MxM.Kd)(p:okM w.heap.size κ)(E:P.follows .mixedOrders=true)(G:Region.noSelect c.toArray=true)(s:MxM.edgesB .any c.toArray=true)(H:MxM.forkB .any c.toArray (MxM.kdOf κ) pre u v post=true)(r:MxM.barB .any c.toArray (MxM.kdOf κ) (pre++u::v::post) l2=true)(z:MxM.pairB .any c.toArray (MxM.kdOf κ) l2=true)
  (C:(pre++u::v::(post++l2)).isPerm (List.range c.length)=true)
  (h:MxM.XL P (λw'=>Only j w w') N c.toArray κ (λM ρ a=>MxM.XL P (λw'=>Only j w w') N c.toArray κ (λ_ ρ a=>Only S w a/\MxM.XL P (λw'=>Only S w w') N c.toArray κ (λ_ ρ w=>Q .normal ρ w) none l2 (MxM.sel c l2) ρ a) M (u::v::post) (MxM.sel c (u::v::post)) ρ a/\MxM.XL P (λw'=>Only j w w') N c.toArray κ (λ_ ρ a=>Only S w a/\MxM.XL P (λw'=>Only S w w') N c.toArray κ (λ_ ρ w=>Q .normal ρ w) none l2 (MxM.sel c l2) ρ a) M (v::u::post) (MxM.sel c (v::u::post)) ρ a) (some λ_=>False) pre (MxM.sel c pre) ρ w):WP P N (.region id c.toArray true) Q ρ w:=
 MxM.WP_fork (I:=λw'=>Only j w w') (I0:=λw'=>Only S w w') pre u v post l2 κ (λi B r w' f=>by rw [aDy p r];exact f.size) (λi B r w' f=>by rw [aDy p r];exact f.size) E G s H r z C (λ_ _=>oS _ _) (λ_ _=>oS _ _) (Only.refl j w) h
end
def Fz.oq (v:Value)(b:Nat):Fz:=⟨λ_ _=>v= .pointer none\/v= .pointer (some ⟨b,0,none⟩),λ_ h=>h⟩
end Go.Lf
namespace Go.OB
open Go.RowKit
end Go.OB
namespace Go.Lf
section
variable {α:Type}{F:Nat->Prop}{w:World}
def Rp.bot (n:Nat):Rp α:=⟨n,λ_ _ _ _=>False,λh=>h.elim,λh=>h.elim,λ_ h=>h⟩
def Rp.le (a b:Rp α):Prop:=a.sz=b.sz/\ ∀F w cs x,a.rd F w cs x->b.rd F w cs x
theorem aEs {a b:Rp α}(h:a.le b): ∀{l:List α}{cs:List Value},rows a F w cs l->rows b F w cs l
 | [],_,q=>q
 |_::_,_,⟨c,d,e,f,j⟩=>⟨c,d,e,h.2 _ _ _ _ f,aEs h j⟩
theorem slf_le {a b:Rp α}(h:a.le b){v:Value}{l:List α}:SlF a F w v l->SlF b F w v l:=λ⟨xs,c,f,j⟩=>⟨xs,aEs h c,h.1▸f,j⟩
def Rp.lim (f:Nat->Rp α)(n:Nat)(h: ∀i,(f i).sz=n):Rp α:=
 ⟨n,λF w cs x=> ∃i,(f i).rd F w cs x,λ⟨i,q⟩=>((f i).len q).trans (h i),λ⟨i,q⟩=>(f i).one q,λa ⟨i,q⟩=>⟨i,(f i).mono a q⟩⟩
theorem le_lim {f:Nat->Rp α}{n:Nat}{h: ∀i,(f i).sz=n}(i:Nat):(f i).le (Rp.lim f n h):=⟨h i,λ_ _ _ _ q=>⟨i,q⟩⟩
theorem aJr {f:Nat->Rp α}(a: ∀i,(f i).le (f (i+1))){i:Nat}: ∀d,(f i).le (f (i+d))
 |0=>⟨rfl,λ_ _ _ _ q=>q⟩
 |d+1=>⟨(aJr a d).1.trans (a (i+d)).1,λ_ _ _ _ q=>(a (i+d)).2 _ _ _ _ ((aJr a d).2 _ _ _ _ q)⟩
theorem aGh {f:Nat->Rp α}{n:Nat}{h: ∀i,(f i).sz=n}(a: ∀i,(f i).le (f (i+1))): ∀{l:List α}{cs:List Value},rows (Rp.lim f n h) F w cs l-> ∃i,rows (f i) F w cs l
 | [],_,q=>⟨0,q⟩
 |_::_,_,⟨c,d,e,⟨i,p⟩,r⟩=>by
  obtain⟨j,s⟩:=aGh a r;refine⟨i+j,c,d,e,(aJr a j).2 _ _ _ _ p,?_⟩;have q:=aEs (aJr a (i:=j) i) s;rwa [Nat.add_comm]at q
theorem aMr {f:Nat->Rp α}{n:Nat}{h: ∀i,(f i).sz=n}(a: ∀i,(f i).le (f (i+1))){v:Value}{l:List α}:SlF (Rp.lim f n h) F w v l-> ∃i,SlF (f i) F w v l:=λ⟨xs,c,j,p⟩=>by
 obtain⟨i,q⟩:=aGh a c;exact⟨i,xs,q,by rw [h i];exact j,p⟩
end
open Go.RowKit Go.OB
section
variable {P:Program}{ρ:Env}{w:World}{d:Option Tmp}{x lo' hi':Operand}{t u ty:TypeId}{pos:String}{af:Array Edge}{g:Option (Nat×Bool)}{k kl kh:IntKind}{lo hi q:Int}{s1 s2:Str}
theorem bs_cut (s:Str)(i j:Nat):(bs s).extract i j=bs ((s.drop i).take (j-i)):=by
 apply ByteArray.ext;unfold bs;simp only [ByteArray.data_extract,List.extract_toArray,List.extract_eq_take_drop]
theorem aFg (a:P.underlying t=some .string) (p:0<=lo) (hh:lo<=hi) (r:hi<=s1.length) (l h:Option Value) (c:h=none/\hi=(s1.length:Int)\/h=some (.int kh hi)) (f:l=none/\lo=0\/l=some (.int kl lo)):
  (Instr.slice t (.string (bs s1)) l h none).run P w= .ok (.string (bs ((s1.drop lo.toNat).take (hi-lo).toNat))) w:=by
 have C:((bs s1).size:Int)=s1.length:=by rw [kY]
 have e:(hi-lo).toNat=hi.toNat-lo.toNat:=by omega
 have j:0<=hi:=by omega
 have z:(hi.toNat:Int)=hi:=Int.toNat_of_nonneg j;rw [e];have s:=bs_cut s1 lo.toNat hi.toNat;rw [<-s];rcases c with ⟨rfl,c⟩|rfl<;>rcases f with ⟨rfl,f⟩|rfl
 ·rw [s,f,c];simp [Instr.slice,Instr.sliceBounds,run_underlying a]
 ·have B:lo<=s1.length:=by omega
  simp [Instr.slice,Instr.sliceBounds,Instr.sliceBound,asIntOf,run_underlying a,c,kY,p,B]
 ·simp [Instr.slice,Instr.sliceBounds,Instr.sliceBound,asIntOf,run_underlying a,kY,j,r,f]
 ·simp [Instr.slice,Instr.sliceBounds,Instr.sliceBound,asIntOf,run_underlying a,kY,j,r,p,z,hh]
theorem Do_cut_lh (a:P.underlying t=some .string)(c:ev ρ x= .string (bs s1))(f:ev ρ lo'= .int kl lo)(hh:ev ρ hi'= .int kh hi)(h:sub' s1 lo hi=some s2):Do P ⟨d,.slice t x (some lo') (some hi') none,ty,pos,af,g⟩ ρ w (.string (bs s2)) w:=by
 obtain⟨j,p,r,rfl⟩:=vW h;have s: ∀n e,P.underlying t≠some (.array n e):=by intro n e q;rw [a]at q;cases q
 unfold Do;simp [execOp,c,f,hh,run_sliceAt_string w t _ _ _ _ a,aFg a j p r _ _ (.inr rfl) (.inr rfl)]
theorem wL (a:P.underlying t=some .string)(c:ev ρ x= .string (bs s1))(f:ev ρ lo'= .int kl lo)(h:sub' s1 lo (s1.length:Int)=some s2):Do P ⟨d,.slice t x (some lo') none none,ty,pos,af,g⟩ ρ w (.string (bs s2)) w:=by
 obtain⟨j,p,r,rfl⟩:=vW h;unfold Do;simp [execOp,c,f,run_sliceAt_string w t _ _ _ _ a,aFg (kl:=kl) (kh:= .i64) (hi:=s1.length) a j p r (some (.int kl lo)) none (.inl ⟨rfl,rfl⟩) (.inr rfl)]
theorem Do_cut_h (a:P.underlying t=some .string)(c:ev ρ x= .string (bs s1))(hh:ev ρ hi'= .int kh hi)(h:sub' s1 0 hi=some s2):Do P ⟨d,.slice t x none (some hi') none,ty,pos,af,g⟩ ρ w (.string (bs s2)) w:=by
 obtain⟨f,j,p,rfl⟩:=vW h;unfold Do;simp [execOp,c,hh,run_sliceAt_string w t _ _ _ _ a,aFg (kl:= .i64) (kh:=kh) (lo:=0) a f j p none (some (.int kh hi)) (.inr rfl) (.inl ⟨rfl,rfl⟩)]
end
section
variable {P:Program}{ρ:Env}{w:World}{F:Nat->Prop}{d:Option Tmp}{x:Operand}{t u ty:TypeId}{pos:String}{af:Array Edge}{g:Option (Nat×Bool)}{α:Type}{n b o:Nat}{e:Fl α}{X:Arr n α}
theorem aIc {r:Rp α} (B: ∀F w c x,r.rd F w c x↔c=e.f x) (j:r.sz=e.sz) (C:P.underlying t=some (.array n u)) (D:Sz P u e.sz) (E:F b) (G:b<w.heap.size) (H:Cells w ⟨b,o,none⟩ ((Fl.arr n e).f X)) (I:ev ρ x= .pointer (some ⟨b,o,none⟩)) (s:n<=9223372036854775807):
  ∃z,(∀w',Do P ⟨d,.slice t x none none none,ty,pos,af,g⟩ ρ w' z w')/\SlF r F w z X.l:=by
 refine⟨.slice (some ⟨b,o,none⟩) n n,λw'=>Do_slicea C D I,?_⟩;have a: ∀(l:List α),rows r F w (l.flatMap e.f) l:=by
  intro l
  induction l with
  |nil=>rfl
  |cons x l J=>exact⟨e.f x,l.flatMap e.f,rfl,(B _ _ _ _).2 rfl,J⟩
 refine⟨_,a _,⟨?_,.inr ⟨⟨b,o,none⟩,n,by rw [X.h],by rw [X.h];omega,by rw [maxLen_eq];omega,λ_=>rfl,?_⟩⟩,λ_ K p=>?_⟩
 ·rw [sW,j]
 ·exact H
 ·obtain rfl:K=b:=by simpa [jY]using p.symm
  exact⟨E,G⟩
end
def isIf (v:Value)(b:Bool):Prop:=match b with
 |true=>v= .nilIface
 |false=> ∃T x,v= .iface T x
def Fz.ic (v:Value)(b:Bool):Fz:=⟨λ_ _=>isIf v b,λ_ h=>h⟩
section
variable {P:Program}{ρ:Env}{w:World}{d:Option Tmp}{x y:Operand}{t u ty:TypeId}{pos:String}{af:Array Edge}{g:Option (Nat×Bool)}{v:Value}{b:Bool}
theorem Do_eqlif (a:P.underlying t=some (.interface (P.methodsAt t)))(h:isIf v b)(c:ev ρ x=v):Do P ⟨d,.binOp .eql t x (.const .nilIface) u,ty,pos,af,g⟩ ρ w (.bool b) w:=by
 have f:ev ρ (.const .nilIface)= .nilIface:=rfl
 cases b with
 |true=>obtain rfl:v= .nilIface:=h;unfold Do;simp [execOp,c,f,eqGuard_nil_constR,run_eql_nil_nil w t a]
 |false=>obtain⟨T,z,rfl⟩:=h;unfold Do;simp [execOp,c,f,eqGuard_at_iface,run_eql_held_nil w t T z a]
theorem Do_neqif (a:P.underlying t=some (.interface (P.methodsAt t)))(h:isIf v b)(c:ev ρ x=v):Do P ⟨d,.binOp .neq t x (.const .nilIface) u,ty,pos,af,g⟩ ρ w (.bool !b) w:=by
 have f:ev ρ (.const .nilIface)= .nilIface:=rfl
 cases b with
 |true=>obtain rfl:v= .nilIface:=h;unfold Do;simp [execOp,c,f,eqGuard_nil_constR,run_neq_nil_nil w t a]
 |false=>obtain⟨T,z,rfl⟩:=h;unfold Do;simp [execOp,c,f,eqGuard_at_iface,run_neq_held_nil w t T z a]
end
section
variable {P:Program}{ρ:Env}{w:World}{d:Option Tmp}{x:Operand}{t u ty:TypeId}{pos:String}{af:Array Edge}{g:Option (Nat×Bool)}{m n i:Nat}{v:Value}{xs ys:List Value}
def jW (P:Program)(t:TypeId)(i:Nat):Option (Nat×TypeId):=match P.underlying t with
 |some (.struct a)=>a[i]?.map λf=>(f.offset,f.type)
 |_=>none
theorem run_field (h:jW P t i=some (m,u)) (w:World):(Instr.field t (.agg xs.toArray) i).run P w=(part u xs.toArray m).run P w:=by
 unfold jW at h;split at h
 ·rename_i a c
  cases hf:a[i]? with
  |none=>rw [hf]at h;cases h
  |some _=>
   rw [hf]at h;simp only [Option.map_some,Option.some.injEq,Prod.mk.injEq]at h;obtain⟨rfl,rfl⟩:=h;simp [Instr.field,run_underlying c,hf,asAgg]
 ·cases h
theorem Do_field1 (h:jW P t i=some (m,u))(a:uN P u)(c:ev ρ x= .agg xs.toArray)(f:(xs.drop m).take 1=[v]):Do P ⟨d,.field t x i,ty,pos,af,g⟩ ρ w v w:=by
 unfold Do;simp [execOp,c,run_field h,part_one a (xs:=xs.toArray) (i:=m) (v:=v) (by simpa using f) w]
theorem aDv {f:FuncId}{first:Array Operand}{us:List Value}(a:first.toList.map (ev ρ)=us):Do P ⟨d,.makeFunc (.func f) first #[],ty,pos,af,g⟩ ρ w (.func (.func f) us.toArray #[]) w:=by
 have e:first.map (ev ρ)=us.toArray:=by rw [<-a];apply Array.ext';simp
 unfold Do;simp [execOp,Instr.makeFunc,e]
end
def Fz.gi (b:Nat):Fz:=⟨λF w=>F b/\b<w.heap.size/\ ∃v,Cells w ⟨b,0,none⟩ [v]/\(v= .nilIface\/ ∃T x,v= .iface T x),λa ⟨c,f,v,h,j⟩=>have q:=Cells.same a c f h;⟨q.1,q.2.1,v,q.2.2,j⟩⟩
end Go.Lf
