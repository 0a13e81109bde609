/- Laws that the claim stands on; no condition beyond those stated. -/
import Derived.Test.YtbjofgmdhbiekaaGreatDoorLfP
import Derived.Test.YtbjofgmdhbiekaaGreatDoorObC
import Derived.Deep.Slices
namespace Go.Lf
open Go.RowKit Go.OB
structure Arr (n:Nat)(α:Type) where
 l:List α
 h:l.length=n
theorem Arr.ext {n:Nat}{α:Type}: ∀{x y:Arr n α},x.l=y.l->x=y
 |⟨_,_⟩,⟨_,_⟩,h=>by cases h;rfl
instance {n:Nat}{α:Type} [DecidableEq α]:DecidableEq (Arr n α):=λx y=>decidable_of_iff (x.l=y.l) ⟨Arr.ext,λh=>by rw [h]⟩
def Arr.rep {α:Type}(n:Nat)(x:α):Arr n α:=⟨List.replicate n x,List.length_replicate⟩
def Arr.set {n:Nat}{α:Type}(x:Arr n α)(i:Int)(a:α):Arr n α:=⟨x.l.set i.toNat a,by rw [List.length_set,x.h]⟩
theorem Arr.at_lt {n:Nat}{α:Type}{x:Arr n α}{q:Int}{a:α}(h:at' x.l q=some a):0<=q/\q<n:=by
 have:=xA h;rw [x.h]at this;exact⟨this.1,this.2.1⟩
structure Fl (α:Type) where
 sz:Nat
 f:α->List Value
 len: ∀x,(f x).length=sz
 one: ∀x,∀v∈f x,v.oneCell'=true
section
variable {α β:Type}{n:Nat}
def Fl.int (k:IntKind):Fl Int:=⟨1,λx=>[.int k x],λ_=>rfl,λ_ v h=>by obtain rfl:=mS.1 h;rfl⟩
def Fl.bool:Fl Bool:=⟨1,λx=>[.bool x],λ_=>rfl,λ_ v h=>by obtain rfl:=mS.1 h;rfl⟩
def Fl.str:Fl Str:=⟨1,λx=>[.string (bs x)],λ_=>rfl,λ_ v h=>by obtain rfl:=mS.1 h;rfl⟩
def Fl.pair (a:Fl α)(b:Fl β):Fl (α×β):=⟨a.sz+b.sz,λx=>a.f x.1++b.f x.2,λx=>by rw [List.length_append,a.len,b.len],λx v h=>(mA.1 h).elim (a.one _ v) (b.one _ v)⟩
def Fl.iso (a:Fl α)(g:β->α):Fl β:=⟨a.sz,λx=>a.f (g x),λ_=>a.len _,λ_=>a.one _⟩
theorem aBm (e:Fl α): ∀l:List α,(l.flatMap e.f).length=l.length*e.sz
 | []=>by simp
 |x::l=>by rw [List.flatMap_cons,List.length_append,e.len,aBm e l,List.length_cons,Nat.add_mul];omega
def Fl.arr (n:Nat)(e:Fl α):Fl (Arr n α):=⟨n*e.sz,λx=>x.l.flatMap e.f,λx=>by rw [aBm,x.h],λx v h=>by obtain⟨y,_,p⟩:=List.mem_flatMap.1 h;exact e.one y v p⟩
def Rp.fl (e:Fl α):Rp α:=⟨e.sz,λ_ _ cs x=>cs=e.f x,λh=>by subst h;exact e.len _,λh=>by subst h;exact e.one _,λ_ h=>h⟩
theorem aEs {e:Fl α}{F:Nat->Prop}{w:World}: ∀{l:List α}{cs:List Value},rows (Rp.fl e) F w cs l↔cs=l.flatMap e.f
 | [],cs=>Iff.rfl
 |x::l,cs=>by
  constructor
  ·rintro⟨c,d,rfl,h1,h⟩;have h1:c=e.f x:=h1;rw [h1,aEs.1 h];rfl
  ·rintro rfl;exact⟨e.f x,l.flatMap e.f,rfl,rfl,aEs.2 rfl⟩
theorem fl_get {e:Fl α}{l:List α}{i:Nat}{a:α}(h:l[i]? =some a):((l.flatMap e.f).drop (i*e.sz)).take e.sz=e.f a:=by
 have:=aLu (r:=Rp.fl e) (F:=λ_=>True) (w:=default) (aEs.2 rfl) h;exact this
theorem fl_set {e:Fl α}{l:List α}{i:Nat}{a:α}(h:i<l.length):splice (l.flatMap e.f) (i*e.sz) (e.f a)=(l.set i a).flatMap e.f:=by
 have:=aUk (r:=Rp.fl e) (F:=λ_=>True) (w:=default) (c:=e.f a) (x:=a) (aEs.2 rfl) h rfl;exact aEs.1 this
theorem Arr.f_get {e:Fl α}{x:Arr n α}{q:Int}{a:α}(h:at' x.l q=some a):(((Fl.arr n e).f x).drop (q.toNat*e.sz)).take e.sz=e.f a:=fl_get (xA h).2.2
theorem Arr.f_set {e:Fl α}{x:Arr n α}{q:Int}{a:α}(p:0<=q)(h1:q<n):splice ((Fl.arr n e).f x) (q.toNat*e.sz) (e.f a)=(Fl.arr n e).f (x.set q a):=fl_set (by rw [x.h];omega)
theorem Cells.ix {e:Fl α}{x:Arr n α}{w:World}{b o:Nat}{q:Int}{a:α}(p:Cells w ⟨b,o,none⟩ ((Fl.arr n e).f x))(h:at' x.l q=some a):Cells w ⟨b,o+q.toNat*e.sz,none⟩ (e.f a):=by
 have:=p.drop (q.toNat*e.sz) e.sz;rwa [Arr.f_get h]at this
end
section
variable {P:Program}{ρ:Env}{w w0 w1:World}{d:Option Tmp}{x y z:Operand}{t u ty:TypeId}{pos:String}{af:Array Edge}{g:Option (Nat×Bool)}
variable {v:Value}{b o i n c s m:Nat}{k k':IntKind}{cs xs vs:List Value}{T:TypeId}{O S:List Nat}{l:List Th}{α:Type}{e:Fl α}{X Y:Arr n α}{a:α}{j q:Int}{F:Nat->Prop}
theorem tV (h1:Agg P t)(h:ev ρ x= .pointer (some ⟨b,o,none⟩))(p:Sz P t e.sz)(A:Cells w ⟨b,o,none⟩ (e.f a)):Do P ⟨d,.load t x,ty,pos,af,g⟩ ρ w (.agg (e.f a).toArray) w:=
 zZ h1 h p (e.len a) A
theorem dL (h1:aAs P t)(f:ev ρ x= .pointer (some ⟨b,o,none⟩))(h:Cells w ⟨b,o,none⟩ [v]):Do P ⟨d,.load t x,ty,pos,af,g⟩ ρ w v w:=
 yP h1 f (by have:=h.get (i:=0) (v:=v) rfl;exact this)
theorem dO (f:P.underlying t=some (.array n u))(p:Sz P u s)(A:ev ρ x= .pointer (some ⟨b,o,none⟩))(B:ev ρ y= .int k q)(h:at' X.l q=some a):
  Do P ⟨d,.indexAddr t x y,ty,pos,af,g⟩ ρ w (.pointer (some ⟨b,o+q.toNat*s,none⟩)) w:=
 Do_idxa f p A B (Arr.at_lt h).1 (Arr.at_lt h).2 rfl rfl
theorem aKn (p:P.underlying t=some (.array n u))(A:aAs P u)(B:Sz P u 1)(C:e.sz=1)(D:ev ρ x= .agg ((Fl.arr n e).f X).toArray)(E:ev ρ y= .int k q)(h:at' X.l q=some a)(G:e.f a=[v]):
    Do P ⟨d,.index t x y,ty,pos,af,g⟩ ρ w v w:=by
 refine Do_index1 p A B D E (Arr.at_lt h).1 (Arr.at_lt h).2 ?_;have:=Arr.f_get (e:=e) h;rw [C,G,Nat.mul_one]at this;have:=congrArg (λl=>l[0]?) this;simpa [List.getElem?_take,List.getElem?_drop]using this
theorem Lx_storeA (H:Hd O w0 w S l)(m:Nat)(hi:l[m]? =some (.blk b ((Fl.arr n e).f X) T))(A:Sz P t e.sz)(B:ev ρ x= .pointer (some ⟨b,0+j.toNat*e.sz,none⟩))(C:ev ρ y=v)(D:v.cells=(e.f a).toArray)(E:0<=j)(h1:j<n)(G:X.set j a=Y):
  ∃w',DoU P ⟨none,.store t x y,ty,pos,af,g⟩ ρ w w'/\Hd O w0 w' S (l.set m (.blk b ((Fl.arr n e).f Y) T)):=by
 subst G;have h:0+j.toNat*e.sz+(e.f a).length<=((Fl.arr n e).f X).length:=by
  rw [(Fl.arr n e).len,e.len,Nat.zero_add,<-Nat.succ_mul];exact Nat.mul_le_mul_right _ (by omega)
 obtain⟨w',I,p⟩:=qX (P:=P) (ρ:=ρ) (ty:=ty) (pos:=pos) (af:=af) (g:=g) A (e.len a) B (by rw [C,D]) (e.one a) (H.V hi) h;rw [Nat.zero_add,Arr.f_set E h1]at p;exact⟨w',I,H.wr hi p⟩
theorem Hd.freezeB (H:Hd O w0 w S l)(hi:l[i]? =some (.blk b cs T)):Hd O w0 w S (l.set i (.fz (.at b 0 cs))):=by
 refine H.turn hi (Only.refl _ w) (λ_=>?_) (by simp [Th.blocks]) (by simp [Th.blocks]);have A:=H.V hi;have f:b∈(Th.blk b cs T).blocks:=by simp [Th.blocks]
 refine⟨⟨H.notO (qS hi) f,λhm=>?_⟩,Blk.lt A,Blk.cells A⟩;rcases aQv hm with h|⟨j,x,B,C,p⟩
 ·simp [Th.blocks]at h
 ·exact H.apart C hi B b p f
def EqF (P:Program)(t:TypeId)(e:Fl α) [DecidableEq α] (k:Nat):Prop:=
 ∀D (xs h:Array Value) (i:Nat) (a b:α) (w:World),(xs.toList.drop i).take e.sz=e.f a->(h.toList.drop i).take e.sz=e.f b->
  ∃u v,(part t xs i).run P w= .ok u w/\(part t h i).run P w= .ok v w/\(Op.equalIn (D+k) t u v).run P w= .ok (decide (a=b)) w
theorem aLg (f:aAs P t){xs:Array Value}{i:Nat}{v:Value}(h:(xs.toList.drop i).take 1=[v])(w:World):(part t xs i).run P w= .ok v w:=by
 have p:xs[i]? =some v:=by
  have:=congrArg (λl=>l[0]?) h;simpa [List.getElem?_take,List.getElem?_drop]using this
 simp [part,vS f,p]
theorem aJm (f:Agg P t)(h:Sz P t n){xs:Array Value}{i:Nat}(w:World):(part t xs i).run P w= .ok (.agg ((xs.toList.drop i).take n).toArray) w:=by
 simp only [part,Sem.run_bind,aDc f,Result.andThen_ok,if_true,bQ h,Sem.run_pure];congr 2;apply Array.ext';simp
theorem EqF.up [DecidableEq α] {k k':Nat}(h:EqF P t e k)(hk:k<=k'):EqF P t e k':=by
 intro D xs f i a b w h1 p;have:=h (D+(k'-k)) xs f i a b w h1 p;rwa [show D+(k'-k)+k=D+k' by omega]at this
theorem EqF.int {f:IntKind}(h:P.underlying t=some (.int f)):EqF P t (Fl.int f) 1:=by
 have p:aAs P t:=by unfold aAs;rw [h];rfl
 intro D xs _ i a b w h1 A;refine⟨_,_,aLg p h1 w,aLg p A w,?_⟩;rw [run_equalIn_int w D t f f _ _ h];rfl
def aLr (P:Program)(p:List Field)(o:Nat)(e:Fl α) [DecidableEq α] (k:Nat):Prop:=
 ∀D (xs h:Array Value) (a b:α) (w:World),(xs.toList.drop o).take e.sz=e.f a->(h.toList.drop o).take e.sz=e.f b->(Op.eqFields (D+k) xs h p).run P w= .ok (decide (a=b)) w
theorem aLr.one [DecidableEq α] {f:Field}{k:Nat}(A:f.offset=o)(B:f.name≠ "_")(h:EqF P f.type e k):aLr P [f] o e k:=by
 subst A;intro D xs C a b w h1 E;obtain⟨u,v,G,I,J⟩:=h D xs C _ a b w h1 E;simp only [Op.eqFields,B,ne_eq,not_false_eq_true,if_true,Sem.run_bind,G,I,J,Result.andThen_ok];by_cases p:a=b<;>simp [p]
theorem aLr.cons {β:Type} [DecidableEq α] [DecidableEq β] {p:Fl β}{f:Field}{C:List Field}{k:Nat} (G:f.offset=o) (I:f.name≠ "_") (h:EqF P f.type e k) (J:aLr P C (o+e.sz) p k):aLr P (f::C) o (Fl.pair e p) k:=by
 subst G;intro D xs B a b w h1 E;have t1: ∀(zs:Array Value) (c:α×β),(zs.toList.drop f.offset).take (e.sz+p.sz)=e.f c.1++p.f c.2->(zs.toList.drop f.offset).take e.sz=e.f c.1/\(zs.toList.drop (f.offset+e.sz)).take p.sz=p.f c.2:=by
  intro zs c h;constructor
  ·have:=congrArg (List.take e.sz) h;rw [List.take_take,Nat.min_eq_left (by omega),List.take_left' (e.len _)]at this;exact this
  ·have:=congrArg (List.drop e.sz) h;rw [List.drop_take,List.drop_drop,Nat.add_sub_cancel_left,List.drop_left' (e.len _)]at this;exact this
 obtain⟨u,v,K,L,M⟩:=h D xs B _ a.1 b.1 w (t1 xs a h1).1 (t1 B b E).1;have q:=J D xs B a.2 b.2 w (t1 xs a h1).2 (t1 B b E).2;simp only [Op.eqFields,I,ne_eq,not_false_eq_true,if_true,Sem.run_bind,K,L,M,Result.andThen_ok];obtain⟨R,a2⟩:=a;obtain⟨b1,_⟩:=b
 by_cases A:R=b1
 ·simp [A,q]
 ·simp [A]
theorem EqF.struct {β:Type} [DecidableEq α] [DecidableEq β] {p:Array Field}{k:Nat}{g:β->α}(I: ∀x y,g x=g y->x=y)(A:P.underlying t=some (.struct p))(J:P.stoodInHeld t=false)(C:Sz P t e.sz)(h:aLr P p.toList 0 e k):EqF P t (Fl.iso e g) (k+1):=by
 have E:Agg P t:=by unfold Agg;rw [A];rfl
 have G:P.fieldsOf t=p:=by simp [Program.fieldsOf,A]
 intro D xs K i a b w h1 B;have h1:(xs.toList.drop i).take e.sz=e.f (g a):=h1;have B:(K.toList.drop i).take e.sz=e.f (g b):=B;refine⟨_,_,aJm E C w,aJm E C w,?_⟩;rw [h1,B];have L:D+(k+1)=(D+k)+1:=by omega
 rw [L,run_equalIn_struct w (D+k) t _ _ (by rw [G];exact A) J,G,h D _ _ (g a) (g b) w (by simp [List.take_of_length_le,e.len]) (by simp [List.take_of_length_le,e.len])];congr 1;rw [decide_eq_decide];exact⟨I a b,λh=>by rw [h]⟩
end
open Go.ChangeShapes Go.WideShapes Go.ChangeAt
section
variable {H:Type}{enc:TypeId×Value->H}{P:Program}{w:World}{base:Nat}{sp:Nat->Bool}{held:Bool}
def All (_:Nat):Prop:=True
def aN (enc:TypeId×Value->H)(P:Program)(w:World)(base:Nat)(sp:Nat->Bool)(held:Bool)(t:TypeId){α:Type}(r:Rp α)(h:α->Prop):Prop:=
 ∀f cs x,DataW.trod enc P w base sp held f t cs=some x-> ∃a,r.rd All w cs a/\h a
theorem aNa {t:TypeId}{k:IntKind}(p:P.underlying t=some (.int k)):aN enc P w base sp held t (Rp.int k) (λz=>(Lit.int k z).wf=true):=by
 intro _ cs x h;obtain⟨z,h1,_,A⟩:=DataW.trod_int p h;exact⟨z,h1,A⟩
theorem aWh {t:TypeId}(p:P.underlying t=some .bool):aN enc P w base sp held t Rp.bool (λ_=>True):=by
 intro _ cs x h;obtain⟨b,h1,_⟩:=DataW.trod_bool p h;exact⟨b,h1,trivial⟩
theorem opens_str {t:TypeId} (A:P.underlying t=some .string):aN enc P w base sp held t Rp.str (λs=>s.length<=9223372036854775807):=by
 intro _ cs x h;obtain⟨s,h1,_,B⟩:=DataW.trod_string A h;refine⟨s.data.toList,?_,?_⟩;rw [h1];rfl;have p:=B;rw [maxLen_eq]at p;show s.data.toList.length<=_;rw [Array.length_toList];exact p
theorem aLi {a:Addr}{n:Nat}{cs:List Value}(h:w.cells? base a n=some cs):cs.length=n/\ ∀i v,cs[i]? =some v->w.cell? (a.add i)=some v:=by
 obtain⟨_,h1,p⟩:=World.cells?_some h;refine⟨h1,λi v f=>?_⟩;have hi:i<n:=by have:=(gS.1 f).1;omega
 rw [p i hi];exact f
theorem add_add (a:Addr) (p q:Nat):(a.add p).add q=a.add (p+q):=by
 unfold Addr.add;by_cases f:p=0;subst f;simp;by_cases h:q=0;subst h;simp;rw [if_neg f,if_neg h,if_neg (by omega)];simp [Nat.add_assoc]
theorem aFm {a:Addr}{v:Value} (h:w.cell? a=some v):a.spot=none:=by
 unfold World.cell? at h;split at h;split at h;cases h;rename_i f;simpa using f;cases h
theorem gather {e:TypeId}{α:Type}{r:Rp α}{C:α->Prop}{a:Addr} (D:aN enc P w base sp held e r C) (len:Nat)
  (f: ∀i,i<len-> ∃cs' n d,w.cells? base (a.add (i*r.sz)) r.sz=some cs'/\DataW.trod enc P w base sp held n e cs'=some d):
  ∀n,n<=len-> ∃(xs:List Value) (l:List α),rows r All w xs l/\l.length=n/\(∀k v,xs[k]? =some v->w.cell? (a.add k)=some v)/\ ∀x∈l,C x
 |0,_=>⟨[],[],rfl,rfl,by simp,by simp⟩
 |n+1,R=>by
  obtain⟨xs,l,h1,E,G,I⟩:=gather D len f n (by omega);obtain⟨c,m,d,J,K⟩:=f n (by omega);obtain⟨y,L,M⟩:=D _ _ _ K;obtain⟨_,A⟩:=aLi J;have B:=qC h1;refine⟨xs++c,l++[y],tY h1 (uT L),by simp [E],λk v p=>?_,λx B=>?_⟩
  ·by_cases hk:k<xs.length
   ·rw [List.getElem?_append_left hk]at p;exact G k v p
   ·rw [List.getElem?_append_right (by omega)]at p;have:=A _ v p;rwa [add_add,show n*r.sz+(k-xs.length)=k by rw [B,E]at hk⊢;omega]at this
  ·rcases mA.1 B with h|h
   ·exact I x h
   ·obtain rfl:=mS.1 h;exact M
theorem tX {t e:TypeId}{α:Type}{r:Rp α}{G:α->Prop} (M:P.underlying t=some (.slice e)) (R:P.cellsOf e=r.sz) (f:0<r.sz) (he:aN enc P w base sp held e r G):
  aN enc P w base sp held t (Rp.sl r) (λl=>l.length<=9223372036854775807/\ ∀x∈l,G x):=by
 intro _ cs x h;rcases Deep.open_slice M h with ⟨rfl,_⟩|⟨a,len,cap,m,n,_,_,rfl,J,_,hm,B,_,C⟩
 ·exact⟨[],⟨_,rfl,SlF.nil⟩,by simp,by simp⟩
 ·have ab:len<=m:=by rw [B];split<;>omega
  rw [maxLen_eq]at hm;obtain⟨xs,l,h1,A,K,h4⟩:=gather (a:=a) he len (λi _=>by
   obtain⟨c,h1,A⟩:=C i (by omega);exact⟨c,n,_,by rw [<-R];exact h1,A⟩) len (Nat.le_refl _)
  have L:=qC h1;have p:0<len->a.spot=none/\a.block<w.heap.size:=by
   intro h0;have E:0<xs.length:=by rw [L,A];exact Nat.mul_pos h0 f
   have:=K 0 xs[0] (gE E);have e0:a.add 0=a:=by simp [Addr.add]
   rw [e0]at this;exact⟨aFm this,World.block_lt_of_cell? _ _ this⟩
  refine⟨l,⟨_,rfl,xs,h1,⟨L,.inr ⟨a,cap,by rw [A],by omega,by rw [maxLen_eq];omega,λh=>(p (by omega)).1,K⟩⟩,λh b J=>⟨trivial,?_⟩⟩,by omega,h4⟩;have:b=a.block:=by simpa [nY,eq_comm]using J
  rw [this];exact(p (by omega)).2
def aAn (P:Program)(t:TypeId)(i:Nat):Option (TypeId×Nat):=
 match P.underlying t with
 |some (.struct h)=>(h[i]?).map λf=>(f.type,f.offset)
 |_=>none
theorem aXi {t ft:TypeId}{i off p:Nat}{cs:List Value}{x:DataW H×List MemPlace} (E:aAn P t i=some (ft,off)) (h:DataW.trod enc P w base sp held p t cs=some x):
    ∃n y,DataW.trod enc P w base sp held n ft ((cs.drop off).take (P.cellsOf ft))=some y:=by
 unfold aAn at E;split at E;rename_i _ I;obtain⟨f,A,B⟩:=Option.map_eq_some_iff.1 E;obtain⟨xs,n,rfl,_,_,C,D⟩:=DataW.trod_struct I h;have hi:=D i f A;have G:i<xs.length:=by rw [C];exact(Array.getElem?_eq_some_iff.1 A).1
 rw [gE G]at hi;have J:f.type=ft:=congrArg Prod.fst B;have K:f.offset=off:=congrArg Prod.snd B;rw [J,K]at hi;exact⟨n,_,hi⟩;cases E
theorem qF {t ft:TypeId}{i off f:Nat}{cs:List Value}{x:DataW H×List MemPlace} (p:aAn P t i=some (ft,off)) (h:DataW.trod enc P w base sp held f t cs=some x):cs.length=P.cellsOf t:=by
 unfold aAn at p;split at p;rename_i _ A;obtain⟨xs,n,_,_,B,_⟩:=DataW.trod_struct A h;exact B;cases p
theorem xP {t ft:TypeId}{α:Type}{r:Rp α}{p:α->Prop}{i off f s:Nat}{cs:List Value}{x:DataW H×List MemPlace}(A:aN enc P w base sp held ft r p)(B:aAn P t i=some (ft,off))(C:P.cellsOf ft=s)(h:DataW.trod enc P w base sp held f t cs=some x):
    ∃a,r.rd All w ((cs.drop off).take s) a/\p a:=by
 obtain⟨n,y,h1⟩:=aXi B h;rw [C]at h1;exact A _ _ _ h1
theorem eY {α β:Type}{a:Rp α}{b:Rp β}{F:Nat->Prop}{cs:List Value}{o m s u:Nat}{x:α}{y:β}(f:a.rd F w ((cs.drop o).take s) x)(h:b.rd F w ((cs.drop m).take u) y)(e:o+s=m):(Rp.pair a b).rd F w ((cs.drop o).take (s+u)) (x,y):=by
 subst e;refine⟨_,_,?_,f,h⟩;rw [List.take_add,List.drop_drop]
end
def i64 (z:Int):Prop:= -9223372036854775808<=z/\z<=9223372036854775807
def okS (s:Str):Prop:=s.length<=9223372036854775807
def okL {α:Type}(f:α->Prop)(l:List α):Prop:=l.length<=9223372036854775807/\ ∀x∈l,f x
theorem opens_i64 {H:Type}{enc:TypeId×Value->H}{P:Program}{w:World}{base:Nat}{sp:Nat->Bool}{held:Bool}{t:TypeId}(p:P.underlying t=some (.int .i64)):aN enc P w base sp held t (Rp.int .i64) (λz=>i64 z):=by
 intro f cs x h;obtain⟨z,h1,A⟩:=aNa p f cs x h;exact⟨z,h1,bounds_i64 A⟩
def isAgg? (P:Program)(t:TypeId):Bool:=match P.underlying t with
 |some (.struct _)=>true
 |_=>false
theorem aVh {P:Program}{w:World}{r:Reach}{base:Nat}{t:TypeId}{v:Value} (f:isAgg? P t=true) (h:Value.okWide P w r base t v): ∃cs,v= .agg cs:=by
 unfold isAgg? at f;unfold Value.okWide at h;split at f;rename_i _ p;rw [p]at h;obtain⟨cs,h1,_⟩:=h;exact⟨cs,h1⟩;cases f
theorem aPv {α:Type}{r:Rp α}{w:World}{v:Value}{l:List α}(h:SlF r All w v l):SlF r (frees [] []) w v l:=
 SlF.mono (λb _ _=>⟨⟨by simp,by simp [bks]⟩,rfl⟩) h
theorem Hd.fresh0 (w:World):Hd [] w w [] []:=⟨Only.refl _ w,by simp,by simp,by simp [bks],by simp⟩
section
variable {P:Program}{N:Nat}{Q:Exit->Env->World->Prop}{ρ:Env}{w w0 w1 w':World}{O S:List Nat}{l l2:List Th}{i:Nat}
theorem oS: ∀w w',Only S w0 w->fK w w'->Only S w0 w':=λ_ _ h f=>h.step (Only.of_below f) (by simp)
theorem Hd.rb (H:Hd O w0 w S l):Hd O w w (bks l) l:=
 ⟨Only.refl _ w,H.holds,λh hm b f=>⟨.inr (aJ.2 ⟨h,hm,f⟩),(H.own h hm b f).2⟩,H.nd,λb f=>⟨Nat.lt_of_lt_of_le (H.fo b f).1 H.only.size,λhm=>by
  obtain⟨h,hi,p⟩:=aJ.1 hm;exact H.notO hi p f⟩⟩
theorem Hd.rj (H:Hd O w0 w S l)(G:Hd O w w' (bks l) l2):Hd O w0 w' S l2:=by
 have f: ∀b∈bks l,w0.heap.size<=b\/b∈S:=λb p=>by
  obtain⟨A,hi,B⟩:=aJ.1 p;exact(H.own A hi b B).1
 refine⟨H.only.step G.only f,G.holds,λA hm b p=>⟨?_,(G.own A hm b p).2⟩,G.nd,H.fo⟩;rcases(G.own A hm b p).1 with h|h
 ·exact .inl (Nat.le_trans H.only.size h)
 ·exact f b h
theorem Hd.firm (H:Hd O w w (bks l) l){p:Fz}(hi:l[i]? =some (.fz p)): ∀w',Only (bks l) w w'->p.p (frees O l) w':=λ_ h=>
 p.mono (λb f A=>⟨f,h.block b A f.2⟩) (H.V hi)
theorem Fz.all {F:Nat->Prop}{p:Fz}(h:p.p F w):p.p (frees [] []) w:=p.mono (λb _ _=>⟨by simp [frees,bks],rfl⟩) h
theorem noMk {f:List MxM.Kd}(h:f.all (λk=> !k.isMk)=true)(i B:Nat):MxM.kdOf f i≠ .mk B:=by
 intro e;unfold MxM.kdOf at e;rw [List.getD_eq_getElem?_getD]at e
 cases hx:f[i]? with
 |none=>rw [hx]at e;cases e
 |some k=>
  rw [hx]at e;have q:=List.all_eq_true.1 h k (qS hx);have e:k= .mk B:=e;subst e
  cases q
def kz (l:List Nat):List MxM.Kd:=l.map λn=>match n with
 |0=> .pure
 |1=> .read
 |2=> .new
 |3=> .eff
 |_=> .fcall
theorem WP_mix {id:Nat}{c:List Oper}(_H:Hd O w w S l)(σ:List Nat)(f:List MxM.Kd)(hm:P.follows .mixedOrders=true)(h:MxM.XL P (λw'=>Only S w w') N c.toArray f (λ_ ρ w=>Q .normal ρ w) (some λ_=>False) σ (MxM.sel c σ) ρ w)
  (C:Region.noSelect c.toArray=true:=by kernel_rfl)(p:MxM.edgesB .any c.toArray=true:=by kernel_rfl)(D:MxM.pairB .any c.toArray (MxM.kdOf f) σ=true:=by kernel_rfl)(A:σ.isPerm (List.range c.length)=true:=by decide)(hk:f.all (λk=> !k.isMk)=true:=by rfl):WP P N (.region id c.toArray true) Q ρ w:=
 MxM.WP_mix σ f (λi B e=>absurd e (noMk hk i B)) hm C p D A (λ_ _=>oS _ _) (Only.refl S w) h
theorem xN {id:Nat}{c:List Oper}(_H:Hd O w w S l)(σ:List Nat)(f:List MxM.Kd)(hm:P.follows .mixedOrders=true)(h:MxM.XL P (λw'=>Only S w w') N c.toArray f (λ_ ρ w=>Q .normal ρ w) (some λ_=>False) σ c ρ w)
  (C:Region.noSelect c.toArray=true:=by kernel_rfl)(p:MxM.edgesB .any c.toArray=true:=by kernel_rfl)(D:MxM.pairB .any c.toArray (MxM.kdOf f) σ=true:=by kernel_rfl)(A:σ=List.range c.length:=by rfl)(hk:f.all (λk=> !k.isMk)=true:=by rfl):WP P N (.region id c.toArray true) Q ρ w:=
 MxM.xN σ f (λi B e=>absurd e (noMk hk i B)) hm C p D A (λ_ _=>oS _ _) (Only.refl S w) h
end
section
variable {P:Program}{ρ:Env}{w w0 w1:World}{d:Option Tmp}{x y z:Operand}{t u ty e:TypeId}{pos:String}{af:Array Edge}{g:Option (Nat×Bool)}
variable {v:Value}{b o i n c s:Nat}{k k':IntKind}{cs xs vs:List Value}{T:TypeId}{O S:List Nat}{l:List Th}{α:Type}{r:Rp α}{xl yl zl:List α}{a:α}{j:Int}{F:Nat->Prop}
theorem aMb {R Y:Value->World->Prop}{f:Oper}(h: ∃v w',Do P f ρ w v w'/\R v w')(k: ∃v w',Do P f ρ w v w'/\Y v w'): ∃v w',Do P f ρ w v w'/\Y v w'/\R v w':=by
 obtain⟨v,w',h1,A⟩:=h;obtain⟨v2,B,p,C⟩:=k;have:v=v2/\w'=B:=by
  unfold Do at h1 p;rw [h1]at p
  injection p with a b
  injection a with a
  exact⟨a,b⟩
 obtain⟨rfl,rfl⟩:=this;exact⟨v,w',h1,C,A⟩
theorem Ys_alloc (f:Zero P t cs): ∃v w',Do P ⟨d,.alloc t,ty,pos,af,g⟩ ρ w v w'/\fK w w':=by
 obtain⟨v,w',h1,b,_,h⟩:=aSy (P:=P) (ρ:=ρ) (w:=w) (d:=d) (ty:=ty) (pos:=pos) (af:=af) (g:=g) f;exact⟨v,w',h1,h.only.below⟩
theorem aNo {len bytes s:Nat}{zs:List Value}{parts:Array (Nat×Operand)}(A:P.underlying t=some (.slice e))(B:El P e s bytes zs)(f:len*s<=16777216)(h:0<len*s)
    (C:jA s len zs (parts.toList.map λp=>(p.1,ev ρ p.2))=some cs): ∃v w',Do P ⟨d,.buildSlice t len parts,ty,pos,af,g⟩ ρ w v w'/\fK w w':=by
 obtain⟨v,w',h1,b,rfl,D⟩:=Ex_bs (P:=P) (ρ:=ρ) (w:=w) (d:=d) (ty:=ty) (pos:=pos) (af:=af) (g:=g) A B f h C;exact⟨_,w',h1,D.only.below⟩
end
theorem fillB_one {ρ:Env}{α:Type}{e:Fl α}{a:α}{zs:List Value}{parts:List (Nat×Operand)}(h:0<e.sz)(hi:parts.map Prod.fst=List.range 1)(A:parts.map (λp=>ev ρ p.2)=[.agg (e.f a).toArray]):
  jA e.sz 1 zs (parts.map λp=>(p.1,ev ρ p.2))=some (e.f a):=
 mF h hi A ⟨by simp [Value.cells,e.len],trivial⟩ (by simp [Value.cells])
end Go.Lf
