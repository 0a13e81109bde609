/- Laws that the claim stands on; no condition beyond those stated. -/
import Derived.Test.YthgccglopkgghaaGreatDoorLfP
import Derived.Test.YthgccglopkgghaaGreatDoorObC
import Derived.Deep.Slices
namespace Go.Lf
open Go.RowKit Go.OB
structure Arr (n:Nat)(α:Type) where
 l:List α
 h:l.length=n
theorem Arr.ext {n:Nat}{α:Type}: ∀{x y:Arr n α},x.l=y.l->x=y
 |⟨_,_⟩,⟨_,_⟩,h=>by cases h;rfl
instance {n:Nat}{α:Type} [DecidableEq α]:DecidableEq (Arr n α):=λx y=>decidable_of_iff (x.l=y.l) ⟨Arr.ext,λh=>by rw [h]⟩
theorem Arr.at_lt {n:Nat}{α:Type}{x:Arr n α}{q:Int}{a:α}(h:at' x.l q=some a):0<=q/\q<n:=by
 have:=xB h;rw [x.h]at this;exact⟨this.1,this.2.1⟩
structure Fl (α:Type) where
 sz:Nat
 f:α->List Value
 len: ∀x,(f x).length=sz
 one: ∀x,∀v∈f x,v.oneCell'=true
section
variable {α β:Type}{n:Nat}
def Fl.int (k:IntKind):Fl Int:=⟨1,λx=>[.int k x],λ_=>rfl,λ_ v h=>by obtain rfl:=mS.1 h;rfl⟩
def Fl.str:Fl Str:=⟨1,λx=>[.string (bs x)],λ_=>rfl,λ_ v h=>by obtain rfl:=mS.1 h;rfl⟩
theorem sW (e:Fl α): ∀l:List α,(l.flatMap e.f).length=l.length*e.sz
 | []=>by simp
 |x::l=>by rw [List.flatMap_cons,List.length_append,e.len,sW e l,List.length_cons,Nat.add_mul];omega
def Fl.arr (n:Nat)(e:Fl α):Fl (Arr n α):=⟨n*e.sz,λx=>x.l.flatMap e.f,λx=>by rw [sW,x.h],λx v h=>by obtain⟨y,_,p⟩:=List.mem_flatMap.1 h;exact e.one y v p⟩
def Rp.fl (e:Fl α):Rp α:=⟨e.sz,λ_ _ cs x=>cs=e.f x,λh=>by subst h;exact e.len _,λh=>by subst h;exact e.one _,λ_ h=>h⟩
theorem aEm {e:Fl α}{F:Nat->Prop}{w:World}: ∀{l:List α}{cs:List Value},rows (Rp.fl e) F w cs l↔cs=l.flatMap e.f
 | [],cs=>Iff.rfl
 |x::l,cs=>by
  constructor
  ·rintro⟨c,d,rfl,h,p⟩;have h:c=e.f x:=h;rw [h,aEm.1 p];rfl
  ·rintro rfl;exact⟨e.f x,l.flatMap e.f,rfl,rfl,aEm.2 rfl⟩
theorem fl_get {e:Fl α}{l:List α}{i:Nat}{a:α}(h:l[i]? =some a):((l.flatMap e.f).drop (i*e.sz)).take e.sz=e.f a:=by
 have:=aAo (r:=Rp.fl e) (F:=λ_=>True) (w:=default) (aEm.2 rfl) h;exact this
theorem Arr.f_get {e:Fl α}{x:Arr n α}{q:Int}{a:α}(h:at' x.l q=some a):(((Fl.arr n e).f x).drop (q.toNat*e.sz)).take e.sz=e.f a:=fl_get (xB h).2.2
theorem Cells.ix {e:Fl α}{x:Arr n α}{w:World}{b o:Nat}{q:Int}{a:α}(p:Cells w ⟨b,o,none⟩ ((Fl.arr n e).f x))(h:at' x.l q=some a):Cells w ⟨b,o+q.toNat*e.sz,none⟩ (e.f a):=by
 have:=p.drop (q.toNat*e.sz) e.sz;rwa [Arr.f_get h]at this
end
section
variable {P:Program}{ρ:Env}{w w0 w1:World}{d:Option Tmp}{x y z:Operand}{t u ty:TypeId}{pos:String}{af:Array Edge}{g:Option (Nat×Bool)}
variable {v:Value}{b o i n c s m:Nat}{k k':IntKind}{cs xs vs:List Value}{T:TypeId}{O S:List Nat}{l:List Th}{α:Type}{e:Fl α}{X Y:Arr n α}{a:α}{j q:Int}{F:Nat->Prop}
theorem aBv (f:uN P t)(h:ev ρ x= .pointer (some ⟨b,o,none⟩))(p:Cells w ⟨b,o,none⟩ [v]):Do P ⟨d,.load t x,ty,pos,af,g⟩ ρ w v w:=
 yP f h (by have:=p.get (i:=0) (v:=v) rfl;exact this)
theorem aEf (f:P.underlying t=some (.array n u))(p:Sz P u s)(A:ev ρ x= .pointer (some ⟨b,o,none⟩))(B:ev ρ y= .int k q)(h:at' X.l q=some a):
  Do P ⟨d,.indexAddr t x y,ty,pos,af,g⟩ ρ w (.pointer (some ⟨b,o+q.toNat*s,none⟩)) w:=
 aJz f p A B (Arr.at_lt h).1 (Arr.at_lt h).2 rfl rfl
theorem Hd.freezeB (H:Hd O w0 w S l)(hi:l[i]? =some (.blk b cs T)):Hd O w0 w S (l.set i (.fz (.at b 0 cs))):=by
 refine H.turn hi (Only.refl _ w) (λ_=>?_) (by simp [Th.blocks]) (by simp [Th.blocks]);have A:=H.V hi;have f:b∈(Th.blk b cs T).blocks:=by simp [Th.blocks]
 refine⟨⟨H.notO (mG hi) f,λB=>?_⟩,Blk.lt A,Blk.cells A⟩;rcases aKb B with h|⟨j,x,C,D,p⟩
 ·simp [Th.blocks]at h
 ·exact H.apart D hi C b p f
theorem part_one (f:uN P t){xs:Array Value}{i:Nat}{v:Value}(h:(xs.toList.drop i).take 1=[v])(w:World):(part t xs i).run P w= .ok v w:=by
 have p:xs[i]? =some v:=by
  have:=congrArg (λl=>l[0]?) h;simpa [List.getElem?_take,List.getElem?_drop]using this
 simp [part,uD f,p]
end
open Go.ChangeShapes Go.WideShapes Go.ChangeAt
section
variable {H:Type}{enc:TypeId×Value->H}{P:Program}{w:World}{base:Nat}{sp:Nat->Bool}{held:Bool}
def All (_:Nat):Prop:=True
def Opens (enc:TypeId×Value->H)(P:Program)(w:World)(base:Nat)(sp:Nat->Bool)(held:Bool)(t:TypeId){α:Type}(r:Rp α)(h:α->Prop):Prop:=
 ∀f cs x,DataW.trod enc P w base sp held f t cs=some x-> ∃a,r.rd All w cs a/\h a
theorem opens_int {t:TypeId}{k:IntKind}(p:P.underlying t=some (.int k)):Opens enc P w base sp held t (Rp.int k) (λz=>(Lit.int k z).wf=true):=by
 intro _ cs x h;obtain⟨z,A,_,B⟩:=DataW.trod_int p h;exact⟨z,A,B⟩
theorem opens_str {t:TypeId} (A:P.underlying t=some .string):Opens enc P w base sp held t Rp.str (λs=>s.length<=9223372036854775807):=by
 intro _ cs x h;obtain⟨s,B,_,C⟩:=DataW.trod_string A h;refine⟨s.data.toList,?_,?_⟩;rw [B];rfl;have p:=C;rw [maxLen_eq]at p;show s.data.toList.length<=_;rw [Array.length_toList];exact p
theorem cells_some {a:Addr}{n:Nat}{cs:List Value}(h:w.cells? base a n=some cs):cs.length=n/\ ∀i v,cs[i]? =some v->w.cell? (a.add i)=some v:=by
 obtain⟨_,p,A⟩:=World.cells?_some h;refine⟨p,λi v f=>?_⟩;have hi:i<n:=by have:=(gS.1 f).1;omega
 rw [A i hi];exact f
theorem add_add (a:Addr) (p q:Nat):(a.add p).add q=a.add (p+q):=by
 unfold Addr.add;by_cases f:p=0;subst f;simp;by_cases h:q=0;subst h;simp;rw [if_neg f,if_neg h,if_neg (by omega)];simp [Nat.add_assoc]
theorem spot_of_cell {a:Addr}{v:Value} (h:w.cell? a=some v):a.spot=none:=by
 unfold World.cell? at h;split at h;split at h;cases h;rename_i f;simpa using f;cases h
theorem gather {e:TypeId}{α:Type}{r:Rp α}{D:α->Prop}{a:Addr} (E:Opens enc P w base sp held e r D) (len:Nat)
  (f: ∀i,i<len-> ∃p n d,w.cells? base (a.add (i*r.sz)) r.sz=some p/\DataW.trod enc P w base sp held n e p=some d):
  ∀n,n<=len-> ∃(xs:List Value) (l:List α),rows r All w xs l/\l.length=n/\(∀k v,xs[k]? =some v->w.cell? (a.add k)=some v)/\ ∀x∈l,D x
 |0,_=>⟨[],[],rfl,rfl,by simp,by simp⟩
 |n+1,hn=>by
  obtain⟨xs,l,G,I,K,L⟩:=gather E len f n (by omega);obtain⟨c,m,d,M,R⟩:=f n (by omega);obtain⟨y,h7,h8⟩:=E _ _ _ R;obtain⟨_,B⟩:=cells_some M;have C:=vH G;refine⟨xs++c,l++[y],aBs G (rows_single h7),by simp [I],λk v A=>?_,λx C=>?_⟩
  ·by_cases J:k<xs.length
   ·rw [List.getElem?_append_left J]at A;exact K k v A
   ·rw [List.getElem?_append_right (by omega)]at A;have:=B _ v A;rwa [add_add,show n*r.sz+(k-xs.length)=k by rw [C,I]at J⊢;omega]at this
  ·rcases mA.1 C with h|h
   ·exact L x h
   ·obtain rfl:=mS.1 h;exact h8
theorem opens_sl {t e:TypeId}{α:Type}{r:Rp α}{I:α->Prop} (R:P.underlying t=some (.slice e)) (hc:P.cellsOf e=r.sz) (f:0<r.sz) (he:Opens enc P w base sp held e r I):
  Opens enc P w base sp held t (Rp.sl r) (λl=>l.length<=9223372036854775807/\ ∀x∈l,I x):=by
 intro _ cs x h;rcases Deep.open_slice R h with ⟨rfl,_⟩|⟨a,len,cap,m,n,_,_,rfl,K,_,hm,C,_,E⟩
 ·exact⟨[],⟨_,rfl,SlF.nil⟩,by simp,by simp⟩
 ·have ad:len<=m:=by rw [C];split<;>omega
  rw [maxLen_eq]at hm;obtain⟨xs,l,A,B,L,h4⟩:=gather (a:=a) he len (λi _=>by
   obtain⟨c,A,B⟩:=E i (by omega);exact⟨c,n,_,by rw [<-hc];exact A,B⟩) len (Nat.le_refl _)
  have M:=vH A;have p:0<len->a.spot=none/\a.block<w.heap.size:=by
   intro h0;have G:0<xs.length:=by rw [M,B];exact Nat.mul_pos h0 f
   have:=L 0 xs[0] (gE G);have e0:a.add 0=a:=by simp [Addr.add]
   rw [e0]at this;exact⟨spot_of_cell this,World.block_lt_of_cell? _ _ this⟩
  refine⟨l,⟨_,rfl,xs,A,⟨M,.inr ⟨a,cap,by rw [B],by omega,by rw [maxLen_eq];omega,λh=>(p (by omega)).1,L⟩⟩,λh b K=>⟨trivial,?_⟩⟩,by omega,h4⟩;have:b=a.block:=by simpa [jY,eq_comm]using K
  rw [this];exact(p (by omega)).2
def fieldTO (P:Program)(t:TypeId)(i:Nat):Option (TypeId×Nat):=
 match P.underlying t with
 |some (.struct h)=>(h[i]?).map λf=>(f.type,f.offset)
 |_=>none
theorem aLb {t ft:TypeId}{i off p:Nat}{cs:List Value}{x:DataW H×List MemPlace} (E:fieldTO P t i=some (ft,off)) (h:DataW.trod enc P w base sp held p t cs=some x):
    ∃n y,DataW.trod enc P w base sp held n ft ((cs.drop off).take (P.cellsOf ft))=some y:=by
 unfold fieldTO at E;split at E;rename_i _ I;obtain⟨f,A,B⟩:=Option.map_eq_some_iff.1 E;obtain⟨xs,n,rfl,_,_,C,D⟩:=DataW.trod_struct I h;have hi:=D i f A;have G:i<xs.length:=by rw [C];exact(Array.getElem?_eq_some_iff.1 A).1
 rw [gE G]at hi;have J:f.type=ft:=congrArg Prod.fst B;have K:f.offset=off:=congrArg Prod.snd B;rw [J,K]at hi;exact⟨n,_,hi⟩;cases E
theorem trod_len {t ft:TypeId}{i off f:Nat}{cs:List Value}{x:DataW H×List MemPlace} (p:fieldTO P t i=some (ft,off)) (h:DataW.trod enc P w base sp held f t cs=some x):cs.length=P.cellsOf t:=by
 unfold fieldTO at p;split at p;rename_i _ A;obtain⟨xs,n,_,_,B,_⟩:=DataW.trod_struct A h;exact B;cases p
theorem part_rd {t ft:TypeId}{α:Type}{r:Rp α}{p:α->Prop}{i off f s:Nat}{cs:List Value}{x:DataW H×List MemPlace}(B:Opens enc P w base sp held ft r p)(C:fieldTO P t i=some (ft,off))(D:P.cellsOf ft=s)(h:DataW.trod enc P w base sp held f t cs=some x):
    ∃a,r.rd All w ((cs.drop off).take s) a/\p a:=by
 obtain⟨n,y,A⟩:=aLb C h;rw [D]at A;exact B _ _ _ A
theorem pair_rd {α β:Type}{a:Rp α}{b:Rp β}{F:Nat->Prop}{cs:List Value}{o m s u:Nat}{x:α}{y:β}(f:a.rd F w ((cs.drop o).take s) x)(h:b.rd F w ((cs.drop m).take u) y)(e:o+s=m):(Rp.pair a b).rd F w ((cs.drop o).take (s+u)) (x,y):=by
 subst e;refine⟨_,_,?_,f,h⟩;rw [List.take_add,List.drop_drop]
end
def i64 (z:Int):Prop:= -9223372036854775808<=z/\z<=9223372036854775807
def okS (s:Str):Prop:=s.length<=9223372036854775807
def okL {α:Type}(f:α->Prop)(l:List α):Prop:=l.length<=9223372036854775807/\ ∀x∈l,f x
theorem opens_i64 {H:Type}{enc:TypeId×Value->H}{P:Program}{w:World}{base:Nat}{sp:Nat->Bool}{held:Bool}{t:TypeId}(p:P.underlying t=some (.int .i64)):Opens enc P w base sp held t (Rp.int .i64) (λz=>i64 z):=by
 intro f cs x h;obtain⟨z,A,B⟩:=opens_int p f cs x h;exact⟨z,A,bounds_i64 B⟩
def isAgg? (P:Program)(t:TypeId):Bool:=match P.underlying t with
 |some (.struct _)=>true
 |_=>false
theorem okWide_agg {P:Program}{w:World}{r:Reach}{base:Nat}{t:TypeId}{v:Value} (f:isAgg? P t=true) (h:Value.okWide P w r base t v): ∃cs,v= .agg cs:=by
 unfold isAgg? at f;unfold Value.okWide at h;split at f;rename_i _ p;rw [p]at h;obtain⟨cs,A,_⟩:=h;exact⟨cs,A⟩;cases f
theorem slf_all {α:Type}{r:Rp α}{w:World}{v:Value}{l:List α}(h:SlF r All w v l):SlF r (frees [] []) w v l:=
 SlF.mono (λb _ _=>⟨⟨by simp,by simp [bks]⟩,rfl⟩) h
theorem Hd.fresh0 (w:World):Hd [] w w [] []:=⟨Only.refl _ w,by simp,by simp,by simp [bks],by simp⟩
section
variable {P:Program}{N:Nat}{Q:Exit->Env->World->Prop}{ρ:Env}{w w0 w1 w':World}{O S:List Nat}{l l2:List Th}{i:Nat}
theorem oS: ∀w w',Only S w0 w->gZ w w'->Only S w0 w':=λ_ _ h f=>h.step (Only.of_below f) (by simp)
theorem Hd.rb (H:Hd O w0 w S l):Hd O w w (bks l) l:=
 ⟨Only.refl _ w,H.holds,λp h b f=>⟨.inr (bH.2 ⟨p,h,f⟩),(H.own p h b f).2⟩,H.nd,λb f=>⟨Nat.lt_of_lt_of_le (H.fo b f).1 H.only.size,λh=>by
  obtain⟨p,hi,A⟩:=bH.1 h;exact H.notO hi A f⟩⟩
theorem Hd.rj (H:Hd O w0 w S l)(G:Hd O w w' (bks l) l2):Hd O w0 w' S l2:=by
 have f: ∀b∈bks l,w0.heap.size<=b\/b∈S:=λb p=>by
  obtain⟨A,hi,B⟩:=bH.1 p;exact(H.own A hi b B).1
 refine⟨H.only.step G.only f,G.holds,λA C b p=>⟨?_,(G.own A C b p).2⟩,G.nd,H.fo⟩;rcases(G.own A C b p).1 with h|h
 ·exact .inl (Nat.le_trans H.only.size h)
 ·exact f b h
theorem Hd.firm (H:Hd O w w (bks l) l){p:Fz}(hi:l[i]? =some (.fz p)): ∀w',Only (bks l) w w'->p.p (frees O l) w':=λ_ h=>
 p.mono (λb f A=>⟨f,h.block b A f.2⟩) (H.V hi)
theorem Fz.all {F:Nat->Prop}{p:Fz}(h:p.p F w):p.p (frees [] []) w:=p.mono (λb _ _=>⟨by simp [frees,bks],rfl⟩) h
theorem noMk {κ:List MxM.Kd}(h:κ.all (λk=> !k.isMk)=true)(i B:Nat):MxM.kdOf κ i≠ .mk B:=by
 intro e;unfold MxM.kdOf at e;rw [List.getD_eq_getElem?_getD]at e
 cases hx:κ[i]? with
 |none=>rw [hx]at e;cases e
 |some k=>
  rw [hx]at e;have q:=List.all_eq_true.1 h k (mG hx);have e:k= .mk B:=e;subst e
  cases q
def kz (l:List Nat):List MxM.Kd:=l.map λn=>match n with
 |0=> .pure
 |1=> .read
 |2=> .new
 |3=> .eff
 |_=> .fcall
theorem WP_mix {id:Nat}{c:List Oper}(_H:Hd O w w S l)(σ:List Nat)(κ:List MxM.Kd)(A:P.follows .mixedOrders=true)(h:MxM.XL P (λw'=>Only S w w') N c.toArray κ (λ_ ρ w=>Q .normal ρ w) (some λ_=>False) σ (MxM.sel c σ) ρ w)
  (C:Region.noSelect c.toArray=true:=by kernel_rfl)(f:MxM.edgesB .any c.toArray=true:=by kernel_rfl)(D:MxM.pairB .any c.toArray (MxM.kdOf κ) σ=true:=by kernel_rfl)(p:σ.isPerm (List.range c.length)=true:=by decide)(E:κ.all (λk=> !k.isMk)=true:=by rfl):WP P N (.region id c.toArray true) Q ρ w:=
 MxM.WP_mix σ κ (λi B e=>absurd e (noMk E i B)) A C f D p (λ_ _=>oS _ _) (Only.refl S w) h
theorem WP_mix0 {id:Nat}{c:List Oper}(_H:Hd O w w S l)(σ:List Nat)(κ:List MxM.Kd)(A:P.follows .mixedOrders=true)(h:MxM.XL P (λw'=>Only S w w') N c.toArray κ (λ_ ρ w=>Q .normal ρ w) (some λ_=>False) σ c ρ w)
  (C:Region.noSelect c.toArray=true:=by kernel_rfl)(f:MxM.edgesB .any c.toArray=true:=by kernel_rfl)(D:MxM.pairB .any c.toArray (MxM.kdOf κ) σ=true:=by kernel_rfl)(p:σ=List.range c.length:=by rfl)(E:κ.all (λk=> !k.isMk)=true:=by rfl):WP P N (.region id c.toArray true) Q ρ w:=
 MxM.WP_mix0 σ κ (λi B e=>absurd e (noMk E i B)) A C f D p (λ_ _=>oS _ _) (Only.refl S w) h
end
section
variable {P:Program}{ρ:Env}{w w0 w1:World}{d:Option Tmp}{x y z:Operand}{t u ty e:TypeId}{pos:String}{af:Array Edge}{g:Option (Nat×Bool)}
variable {v:Value}{b o i n c s:Nat}{k k':IntKind}{cs xs vs:List Value}{T:TypeId}{O S:List Nat}{l:List Th}{α:Type}{r:Rp α}{xl yl zl:List α}{a:α}{j:Int}{F:Nat->Prop}
theorem uB {R Y:Value->World->Prop}{f:Oper}(h: ∃v w',Do P f ρ w v w'/\R v w')(k: ∃v w',Do P f ρ w v w'/\Y v w'): ∃v w',Do P f ρ w v w'/\Y v w'/\R v w':=by
 obtain⟨v,w',p,B⟩:=h;obtain⟨v2,C,A,D⟩:=k;have:v=v2/\w'=C:=by
  unfold Do at p A;rw [p]at A
  injection A with a b
  injection a with a
  exact⟨a,b⟩
 obtain⟨rfl,rfl⟩:=this;exact⟨v,w',p,D,B⟩
theorem tY {len bytes s:Nat}{A:List Value}{parts:Array (Nat×Operand)}(B:P.underlying t=some (.slice e))(C:El P e s bytes A)(f:len*s<=16777216)(h:0<len*s)
    (D:wE s len A (parts.toList.map λp=>(p.1,ev ρ p.2))=some cs): ∃v w',Do P ⟨d,.buildSlice t len parts,ty,pos,af,g⟩ ρ w v w'/\gZ w w':=by
 obtain⟨v,w',E,b,rfl,G⟩:=Ex_bs (P:=P) (ρ:=ρ) (w:=w) (d:=d) (ty:=ty) (pos:=pos) (af:=af) (g:=g) B C f h D;exact⟨_,w',E,G.only.below⟩
end
end Go.Lf
