/- Laws that the claim stands on; no condition beyond those stated. -/
import Derived.Test.YtibkjjklfhfipaaGreatLfQ
import Derived.WideLaws
namespace Go.Lf
open Go.RowKit Go.OB
section
variable {P:Program}{N:Nat}{Q:Exit->Env->World->Prop}{ρ:Env}{w w0 w1 w':World}{O S:List Nat}{l l2:List Th}{i n0:Nat}{A:Nat->Prop}
def frm (O:List Nat)(l:List Th)(w0:World):Nat->Prop:=λb=>frees O l b/\b<w0.heap.size
structure Hm (n0:Nat)(A:Nat->Prop)(O:List Nat)(w0 w:World)(S:List Nat)(l:List Th):Prop where
 only:Only S w0 w
 holds: ∀it∈l,it.holds (frm O l w0) w
 own: ∀it∈l,∀b∈it.blocks,(w0.heap.size<=b\/b∈S)/\b<w.heap.size
 nd:(bks l).Nodup
 fo: ∀b∈O,b<w0.heap.size/\b∉S
 made: ∀i it,l[i]? =some it-> ∀c∈it.blocks,(i<n0/\c<w0.heap.size)\/(n0<=i/\A c)
theorem Hd.hm (H:Hd O w w S l):Hm l.length (λ_=>False) O w w S l:=
 ⟨H.only,λit hm=>Th.same (H.holds it hm) (λ_ h a=>⟨⟨h,a⟩,rfl⟩) (λ_ _=>rfl),H.own,H.nd,H.fo,λ_ it hi c b=> .inl ⟨(gS.1 hi).1,(H.own it (qS hi) c b).2⟩⟩
theorem Hm.hd (H:Hm n0 A O w0 w S l):Hd O w0 w S l:=
 ⟨H.only,λit hm=>Th.same (H.holds it hm) (λ_ h _=>⟨h.1,rfl⟩) (λ_ _=>rfl),H.own,H.nd,H.fo⟩
theorem Hm.V (H:Hm n0 A O w0 w S l){it:Th}(hi:l[i]? =some it):it.holds (frm O l w0) w:=H.holds it (qS hi)
theorem Hm.step (H:Hm n0 A O w0 w S l)(c:Only [] w w'):Hm n0 A O w0 w' S l:=
  ⟨H.only.trans (c.mono (by simp)),λit hm=>Th.same (H.holds it hm) (λb a f=>⟨a,vO c f⟩) (λb a=>vO c (H.own it hm b a).2),
   λit hm b a=>⟨(H.own it hm b a).1,Nat.lt_of_lt_of_le (H.own it hm b a).2 c.size⟩,H.nd,H.fo,H.made⟩
theorem Hm.Z (H:Hm n0 A O w0 w S l)(a:fK w w'):Hm n0 A O w0 w' S l:=H.step (Only.of_below a)
theorem frm_fz {p:Fz}:frm O (l++[.fz p]) w0=frm O l w0:=by funext b;unfold frm;rw [aVh]
theorem Hm.fz (H:Hm n0 A O w0 w S l) (p:Fz) (b:p.p (frm O l w0) w):Hm n0 A O w0 w S (l++[.fz p]):=by
 refine⟨H.only,λit hm=>?_,λit hm=>?_,?_,H.fo,λi it hi c a=>?_⟩
 ·rw [frm_fz];rcases mA.1 hm with hm|hm
  ·exact H.holds it hm
  ·obtain rfl:=mS.1 hm;exact b
 ·rcases mA.1 hm with hm|hm
  ·exact H.own it hm
  ·obtain rfl:=mS.1 hm;simp [Th.blocks]
 ·rw [qQ];simpa [bks,Th.blocks]using H.nd
 ·by_cases h:i<l.length
  ·rw [List.getElem?_append_left h]at hi;exact H.made i it hi c a
  ·rw [List.getElem?_append_right (by omega)]at hi;have:=qS hi;obtain rfl:=mS.1 this;simp [Th.blocks]at a
theorem Hm.fzs: ∀{l:List Th} (ps:List Fz),Hm n0 A O w0 w S l->allp (frm O l w0) w ps->Hm n0 A O w0 w S (l++ps.map Th.fz)
 |l,[],H,_=>by simpa using H
 |l,p::ps,H,h=>by
  have a:=H.fz p h.1;have b:=Hm.fzs (l:=l++[.fz p]) ps a (by rw [frm_fz];exact h.2);simpa using b
theorem Hm.add {b:Nat}{cs:List Value}{T:TypeId} (H:Hm n0 A O w0 w S l) (s:fK w w') (u:w0.heap.size<=b) (y: ¬A b) (z:Blk w' b cs T) {it:Th} (B:n0<=l.length) (j:it.blocks=[b]) (hh:it.holds (frm O l w0) w'):
  Hm n0 (λx=>x=b\/A x) O w0 w' S (l++[it]):=by
 have H:=H.Z s;have n:b∉bks l:=λhm=>by
  obtain⟨x,C,o⟩:=dV.1 hm;obtain⟨i,hi⟩:=List.getElem?_of_mem C;rcases H.made i x hi b o with h|h
  ·omega
  ·exact y h.2
 have q: ∀{c},frm O l w0 c->frm O (l++[it]) w0 c:=λ {c} f=>⟨⟨f.1.1,by
  rw [qQ,mA];rintro(h|h)
  ·exact f.1.2 h
  ·have:c=b:=by simpa [bks,j]using h
   have:=f.2;omega⟩,f.2⟩
 have p:b<w'.heap.size:=(Array.getElem?_eq_some_iff.1 z).1;refine⟨H.only,λx hm=>?_,λx hm c f=>?_,?_,H.fo,λi x hi c f=>?_⟩
 ·rcases mA.1 hm with hm|hm
  ·exact Th.same (H.holds x hm) (λc f _=>⟨q f,rfl⟩) (λ_ _=>rfl)
  ·obtain rfl:=mS.1 hm;exact Th.same hh (λc f _=>⟨q f,rfl⟩) (λ_ _=>rfl)
 ·rcases mA.1 hm with hm|hm
  ·exact H.own x hm c f
  ·obtain rfl:=mS.1 hm;rw [j]at f;obtain rfl:=mS.1 f;exact⟨.inl u,p⟩
 ·rw [qQ,List.nodup_append];refine⟨H.nd,by simp [bks,j],λ_ D c f=>?_⟩;have:c=b:=by simpa [bks,j]using f
  subst this;exact λe=>n (e▸D)
 ·by_cases h:i<l.length
  ·rw [List.getElem?_append_left h]at hi;rcases H.made i x hi c f with h|h
   ·exact .inl h
   ·exact .inr ⟨h.1,.inr h.2⟩
  ·rw [List.getElem?_append_right (by omega)]at hi;obtain rfl:=mS.1 (qS hi);rw [j]at f;obtain rfl:=mS.1 f;exact .inr ⟨by omega,.inl rfl⟩
def okM (B:Nat):List MxM.Kd->Prop
 | []=>True
 |k::l=>(match k with | .mk B'=>B'=B|_=>True)/\okM B l
theorem aJs {B:Nat}: ∀{κ:List MxM.Kd},okM B κ-> ∀{i b},MxM.kdOf κ i= .mk b->b=B
 | [],_,i,b,h=>by simp [MxM.kdOf]at h
 |k::κ,a,0,b,h=>by
  have:k= .mk b:=by simpa [MxM.kdOf]using h
  subst this;exact a.1
 |k::κ,a,i+1,b,h=>aJs a.2 (i:=i) (by simpa [MxM.kdOf]using h)
theorem WP_mixM {id:Nat}{c:List Oper}(_H:Hd O w w S l)(σ:List Nat)(κ:List MxM.Kd)(a:okM w.heap.size κ)(hm:P.follows .mixedOrders=true)(n:Region.noSelect c.toArray=true)(b:MxM.edgesB .any c.toArray=true)(o:MxM.pairB .any c.toArray (MxM.kdOf κ) σ=true)
  (f:σ.isPerm (List.range c.length)=true)(h:MxM.XL P (λw'=>Only S w w') N c.toArray κ (λ_ ρ w=>Q .normal ρ w) (some λ_=>False) σ (MxM.sel c σ) ρ w):WP P N (.region id c.toArray true) Q ρ w:=
 MxM.WP_mix σ κ (λi _ p w' j=>by rw [aJs a p];exact j.size) hm n b o f (λ_ _=>oS _ _) (Only.refl S w) h
theorem Hd.firmB {b:Nat}{cs:List Value}{T:TypeId}{l1:List Th}{a c:List Nat}(H:Hd O w w S l)(f:Hd c w w a l1)(hi:l[i]? =some (.blk b cs T))(h:b∈c): ∀w',Only a w w'->Blk w' b cs T:=λ_ j=>
 nZ (H.V hi) (j.block b (f.fo b h).1 (f.fo b h).2)
theorem jK {id:Nat}{c:List Oper}{f s:List Nat}{l1:List Th}(_H:Hd O w w S l)(_H1:Hd s w w f l1)(pre:List Nat)(u v:Nat)(post l2:List Nat)(κ:List MxM.Kd)(j:okM w.heap.size κ)(hm:P.follows .mixedOrders=true)(y:Region.noSelect c.toArray=true)(o:MxM.edgesB .any c.toArray=true)(z:MxM.forkB .any c.toArray (MxM.kdOf κ) pre u v post=true)(n:MxM.barB .any c.toArray (MxM.kdOf κ) (pre++u::v::post) l2=true)(p:MxM.pairB .any c.toArray (MxM.kdOf κ) l2=true)
  (q:(pre++u::v::(post++l2)).isPerm (List.range c.length)=true)
  (h:MxM.XL P (λw'=>Only f w w') N c.toArray κ (λM ρ a=>MxM.XL P (λw'=>Only f w w') N c.toArray κ (λ_ ρ a=>Only S w a/\MxM.XL P (λw'=>Only S w w') N c.toArray κ (λ_ ρ w=>Q .normal ρ w) none l2 (MxM.sel c l2) ρ a) M (u::v::post) (MxM.sel c (u::v::post)) ρ a/\MxM.XL P (λw'=>Only f w w') N c.toArray κ (λ_ ρ a=>Only S w a/\MxM.XL P (λw'=>Only S w w') N c.toArray κ (λ_ ρ w=>Q .normal ρ w) none l2 (MxM.sel c l2) ρ a) M (v::u::post) (MxM.sel c (v::u::post)) ρ a) (some λ_=>False) pre (MxM.sel c pre) ρ w):WP P N (.region id c.toArray true) Q ρ w:=
 MxM.WP_fork (I:=λw'=>Only f w w') (I0:=λw'=>Only S w w') pre u v post l2 κ (λi B n w' b=>by rw [aJs j n];exact b.size) (λi B n w' b=>by rw [aJs j n];exact b.size) hm y o z n p q (λ_ _=>oS _ _) (λ_ _=>oS _ _) (Only.refl f w) h
end
section
variable {P:Program}{N:Nat}{ops:Array Oper}{κ:List MxM.Kd}{K:MxM.Mm->Env->World->Prop}{k:Nat}{σ:List Nat}{rest:List Oper}{ρ:Env}{w w0:World}{v:Value}{d:Nat}{ty t e:TypeId}{pos:String}{af:Array Edge}{g:Option (Nat×Bool)}{x:Operand}
variable {O S:List Nat}{l:List Th}{α:Type}{r:Rp α}{xl:List α}{cs:List Value}{A:Nat->Prop}{n0:Nat}
theorem Hm.alloc_rule (H:Hm n0 A O w0 w S l)(c:Nat.ble n0 l.length=true)(j:MxM.kdOf κ k= .mk w0.heap.size)(o:fV N ops ρ ⟨some d,.alloc t,ty,pos,af,g⟩=true)(hd:Nat.blt d N=true)(a:OB.Zero P t cs)
  (n: ∀b w',Hm n0 (λx=>x=b\/A x) O w0 w' S (l++[.blk b cs t])->MxM.XL P (λw'=>Only S w0 w') N ops κ K (some λx=>x=b\/A x) σ rest (upd ρ d (.pointer (some ⟨b,0,none⟩))) w'):
  MxM.XL P (λw'=>Only S w0 w') N ops κ K (some A) (k::σ) (⟨some d,.alloc t,ty,pos,af,g⟩::rest) ρ w:=by
 refine MxM.XL_mk (m:= .ptr) (cs:=cs) (T:=t) (λ_ _=>oS _ _) j o hd (λw' _=>?_) λb w' p q s h=>n b w' (H.add p q s h (Nat.le_of_ble_eq_true c) rfl h)
 unfold OB.Zero at a
 cases hi:P.info? t with
 |none=>rw [hi]at a;cases a
 |some f=>
  rw [hi]at a
  cases hzz:f.zero with
  |none=>simp [hzz]at a
  |some _=>
   simp [hzz]at a;unfold Do;simp [execOp,Instr.alloc,zeroValue,typeInfo,hi,hzz,newVar,newRow,newObj,Sem.run,<-a,MxM.Mk.val]
theorem Hm.bs_rule {len bytes:Nat}{zs:List Value}{parts:Array (Nat×Operand)} (H:Hm n0 A O w0 w S l) (s:Nat.ble n0 l.length=true) (D:MxM.kdOf κ k= .mk w0.heap.size) (E:fV N ops ρ ⟨some d,.buildSlice t len parts,ty,pos,af,g⟩=true) (hd:Nat.blt d N=true)
  (G:P.underlying t=some (.slice e)) (I:El P e r.sz bytes zs) (o:len*r.sz<=16777216) (f:0<len*r.sz) (u:xl.length=len)
  (j:uA r.sz len zs (parts.toList.map λp=>(p.1,ev ρ p.2))=some cs) (q:rows r (frm O l w0) w cs xl)
  (n: ∀v b w',Hm n0 (λx=>x=b\/A x) O w0 w' S (l++[.own r v e xl])->MxM.XL P (λw'=>Only S w0 w') N ops κ K (some λx=>x=b\/A x) σ rest (upd ρ d v) w'):
  MxM.XL P (λw'=>Only S w0 w') N ops κ K (some A) (k::σ) (⟨some d,.buildSlice t len parts,ty,pos,af,g⟩::rest) ρ w:=by
 refine MxM.XL_mk (m:= .sl len) (cs:=cs) (T:=e) (λ_ _=>oS _ _) D E hd (λw' _=>?_) λb w' B J L C=>n _ b w' (H.add B J L C (Nat.le_of_ble_eq_true s) rfl ?_)
 ·obtain⟨i,z,M,R,y,_,X⟩:=I.get;unfold Do;unfold uA at j;rw [Option.map_eq_some_iff]at j;obtain⟨Y,j,rfl⟩:=j;have q:=run_buildSlice (P:=P) w' t e len (parts.map λ(i,x)=>(i,ev ρ x)) Y i z G M R (by rw [y];omega) (by rw [y];omega) (by
   rw [y,X,Array.toList_map];exact j)
  simp [execOp,q,MxM.Mk.val]
 ·have a:=nC q;have hs:Same (frm O l w0) (frm O l w0) w w':=λ_ hc hl=>⟨hc,vO (Only.of_below B) hl⟩
  subst u;refine⟨cs,aU hs q,a,.inr ⟨b,xl.length,cs.toArray,rfl,Nat.zero_le _,C,Nat.le_refl _,?_,(by simpa using a),(by rw [List.take_of_length_le];simp [a])⟩⟩;rw [maxLen_eq];have h0:r.sz≠0:=(by intro h;rw [h]at f;simp at f);have:xl.length<=xl.length*r.sz:=Nat.le_mul_of_pos_right _ (by omega);omega
theorem Hd.bs_ruleA {B len bytes:Nat}{zs:List Value}{parts:Array (Nat×Operand)} (H:Hd O w0 w S l) (C:MxM.kdOf κ k= .mk B) (D:fV N ops ρ ⟨some d,.buildSlice t len parts,ty,pos,af,g⟩=true) (hd:Nat.blt d N=true)
  (E:P.underlying t=some (.slice e)) (G:El P e r.sz bytes zs) (j:len*r.sz<=16777216) (c:0<len*r.sz) (q:xl.length=len)
  (f:uA r.sz len zs (parts.toList.map λp=>(p.1,ev ρ p.2))=some cs) (o:rows r (frees O l) w cs xl)
  (n: ∀M v w',Hd O w0 w' S (l++[.own r v e xl])->MxM.XL P (λw'=>Only S w0 w') N ops κ K M σ rest (upd ρ d v) w'):
  MxM.XL P (λw'=>Only S w0 w') N ops κ K (some λx=>x<w.heap.size) (k::σ) (⟨some d,.buildSlice t len parts,ty,pos,af,g⟩::rest) ρ w:=by
 refine MxM.XL_mk (m:= .sl len) (cs:=cs) (T:=e) (λ_ _=>oS _ _) C D hd (λw' _=>?_) λb w' I _ J y=>n _ _ w' (H.add (Only.of_below I) (λL=>⟨cs,aU L o,?_⟩) (λR s=>?_) (xY _))
 ·obtain⟨i,z,X,Y,u,_,h5⟩:=G.get;unfold Do;unfold uA at f;rw [Option.map_eq_some_iff]at f;obtain⟨ca,f,rfl⟩:=f;have o:=run_buildSlice (P:=P) w' t e len (parts.map λ(i,x)=>(i,ev ρ x)) ca i z E X Y (by rw [u];omega) (by rw [u];omega) (by
   rw [u,h5,Array.toList_map];exact f)
  simp [execOp,o,MxM.Mk.val]
 ·have a:=nC o;subst q;refine⟨a,.inr ⟨b,xl.length,cs.toArray,rfl,Nat.zero_le _,y,Nat.le_refl _,?_,(by simpa using a),(by rw [List.take_of_length_le];simp [a])⟩⟩;rw [maxLen_eq];have h0:r.sz≠0:=(by intro h;rw [h]at c;simp at c);have:xl.length<=xl.length*r.sz:=Nat.le_mul_of_pos_right _ (by omega);omega
 ·have:R=b:=by simpa [Th.blocks,ob,kT,MxM.Mk.val]using s
  subst this;exact⟨Nat.le_of_not_lt J,(Array.getElem?_eq_some_iff.1 y).1⟩
end
theorem qI {v:Value}(h:v.oneCell'=true):v.cells= #[v]:=by cases v<;>simp_all [Value.oneCell',Value.cells]
theorem aAv: ∀{vs:List Value},aNj vs->aXb 1 vs/\vs.flatMap (λv=>v.cells.toList)=vs
 | [],_=>⟨trivial,rfl⟩
 |v::vs,h=>by
  have a:=aAv h.2;have e:=qI h.1;refine⟨⟨by rw [e];rfl,a.1⟩,?_⟩;rw [List.flatMap_cons,e,a.2];rfl
theorem aKr {ρ:Env}{len:Nat}{zs vs:List Value}{parts:List (Nat×Operand)}(hi:parts.map Prod.fst=List.range len)(b:parts.map (λp=>ev ρ p.2)=vs)(a:aNj vs):
  uA 1 len zs (parts.map λp=>(p.1,ev ρ p.2))=some vs:=xO (by decide) hi b (aAv a).1 (aAv a).2
end Go.Lf
namespace Go.OB
open Go.RowKit
end Go.OB
namespace Go.Lf
section
variable {α:Type}{F:Nat->Prop}{w:World}
def Rp.bot (n:Nat):Rp α:=⟨n,λ_ _ _ _=>False,λh=>h.elim,λh=>h.elim,λ_ h=>h⟩
def Rp.le (a b:Rp α):Prop:=a.sz=b.sz/\ ∀F w cs x,a.rd F w cs x->b.rd F w cs x
theorem aQw {a b:Rp α}(h:a.le b): ∀{l:List α}{cs:List Value},rows a F w cs l->rows b F w cs l
 | [],_,q=>q
 |_::_,_,⟨c,d,e,f,j⟩=>⟨c,d,e,h.2 _ _ _ _ f,aQw h j⟩
theorem slf_le {a b:Rp α}(h:a.le b){v:Value}{l:List α}:SlF a F w v l->SlF b F w v l:=λ⟨c,f,j,n⟩=>⟨c,aQw h f,h.1▸j,n⟩
def Rp.lim (f:Nat->Rp α)(n:Nat)(h: ∀i,(f i).sz=n):Rp α:=
 ⟨n,λF w cs x=> ∃i,(f i).rd F w cs x,λ⟨i,q⟩=>((f i).len q).trans (h i),λ⟨i,q⟩=>(f i).one q,λa ⟨i,q⟩=>⟨i,(f i).mono a q⟩⟩
theorem le_lim {f:Nat->Rp α}{n:Nat}{h: ∀i,(f i).sz=n}(i:Nat):(f i).le (Rp.lim f n h):=⟨h i,λ_ _ _ _ q=>⟨i,q⟩⟩
theorem bBz {f:Nat->Rp α}(hm: ∀i,(f i).le (f (i+1))){i:Nat}: ∀d,(f i).le (f (i+d))
 |0=>⟨rfl,λ_ _ _ _ q=>q⟩
 |d+1=>⟨(bBz hm d).1.trans (hm (i+d)).1,λ_ _ _ _ q=>(hm (i+d)).2 _ _ _ _ ((bBz hm d).2 _ _ _ _ q)⟩
theorem aTu {f:Nat->Rp α}{n:Nat}{h: ∀i,(f i).sz=n}(hm: ∀i,(f i).le (f (i+1))): ∀{l:List α}{cs:List Value},rows (Rp.lim f n h) F w cs l-> ∃i,rows (f i) F w cs l
 | [],_,q=>⟨0,q⟩
 |_::_,_,⟨c,d,e,⟨i,a⟩,b⟩=>by
  obtain⟨j,o⟩:=aTu hm b;refine⟨i+j,c,d,e,(bBz hm j).2 _ _ _ _ a,?_⟩;have q:=aQw (bBz hm (i:=j) i) o;rwa [Nat.add_comm]at q
theorem bBb {f:Nat->Rp α}{n:Nat}{h: ∀i,(f i).sz=n}(hm: ∀i,(f i).le (f (i+1))){v:Value}{l:List α}:SlF (Rp.lim f n h) F w v l-> ∃i,SlF (f i) F w v l:=λ⟨a,b,c,j⟩=>by
 obtain⟨i,q⟩:=aTu hm b;exact⟨i,a,q,by rw [h i];exact c,j⟩
end
open Go.RowKit Go.OB
end Go.Lf
