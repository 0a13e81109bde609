/- Laws that the claim stands on; no condition beyond those stated. -/
import Derived.Test.YtbjofgmdhbiekaaGreatDoorLfP
import Derived.Test.YtbjofgmdhbiekaaGreatDoorObC
import Derived.Deep.Slices
namespace Go.Lf
open Go.RowKit Go.OB
structure Arr (n:Nat)(α:Type) where
 l:List α
 h:l.length=n
theorem Arr.ext {n:Nat}{α:Type}: ∀{x y:Arr n α},x.l=y.l->x=y
 |⟨_,_⟩,⟨_,_⟩,h=>by cases h;rfl
instance {n:Nat}{α:Type} [DecidableEq α]:DecidableEq (Arr n α):=λx y=>decidable_of_iff (x.l=y.l) ⟨Arr.ext,λh=>by rw [h]⟩
def Arr.rep {α:Type}(n:Nat)(x:α):Arr n α:=⟨List.replicate n x,List.length_replicate⟩
def Arr.set {n:Nat}{α:Type}(x:Arr n α)(i:Int)(a:α):Arr n α:=⟨x.l.set i.toNat a,by rw [List.length_set,x.h]⟩
theorem Arr.at_lt {n:Nat}{α:Type}{x:Arr n α}{q:Int}{a:α}(h:at' x.l q=some a):0<=q/\q<n:=by
 have:=zY h;rw [x.h]at this;exact⟨this.1,this.2.1⟩
structure Fl (α:Type) where
 sz:Nat
 f:α->List Value
 len: ∀x,(f x).length=sz
 one: ∀x,∀v∈f x,v.oneCell'=true
section
variable {α β:Type}{n:Nat}
def Fl.int (k:IntKind):Fl Int:=⟨1,λx=>[.int k x],λ_=>rfl,λ_ v h=>by obtain rfl:=mS.1 h;rfl⟩
def Fl.bool:Fl Bool:=⟨1,λx=>[.bool x],λ_=>rfl,λ_ v h=>by obtain rfl:=mS.1 h;rfl⟩
def Fl.str:Fl Str:=⟨1,λx=>[.string (bs x)],λ_=>rfl,λ_ v h=>by obtain rfl:=mS.1 h;rfl⟩
def Fl.pair (a:Fl α)(b:Fl β):Fl (α×β):=⟨a.sz+b.sz,λx=>a.f x.1++b.f x.2,λx=>by rw [List.length_append,a.len,b.len],λx v h=>(mA.1 h).elim (a.one _ v) (b.one _ v)⟩
def Fl.iso (a:Fl α)(g:β->α):Fl β:=⟨a.sz,λx=>a.f (g x),λ_=>a.len _,λ_=>a.one _⟩
theorem aBl (e:Fl α): ∀l:List α,(l.flatMap e.f).length=l.length*e.sz
 | []=>by simp
 |x::l=>by rw [List.flatMap_cons,List.length_append,e.len,aBl e l,List.length_cons,Nat.add_mul];omega
def Fl.arr (n:Nat)(e:Fl α):Fl (Arr n α):=⟨n*e.sz,λx=>x.l.flatMap e.f,λx=>by rw [aBl,x.h],λx v h=>by obtain⟨y,_,p⟩:=List.mem_flatMap.1 h;exact e.one y v p⟩
def Rp.fl (e:Fl α):Rp α:=⟨e.sz,λ_ _ cs x=>cs=e.f x,λh=>by subst h;exact e.len _,λh=>by subst h;exact e.one _,λ_ h=>h⟩
theorem aFa {e:Fl α}{F:Nat->Prop}{w:World}: ∀{l:List α}{cs:List Value},rows (Rp.fl e) F w cs l↔cs=l.flatMap e.f
 | [],cs=>Iff.rfl
 |x::l,cs=>by
  constructor
  ·rintro⟨c,d,rfl,h,p⟩;have h:c=e.f x:=h;rw [h,aFa.1 p];rfl
  ·rintro rfl;exact⟨e.f x,l.flatMap e.f,rfl,rfl,aFa.2 rfl⟩
theorem aUa {e:Fl α}{l:List α}{i:Nat}{a:α}(h:l[i]? =some a):((l.flatMap e.f).drop (i*e.sz)).take e.sz=e.f a:=by
 have:=aKy (r:=Rp.fl e) (F:=λ_=>True) (w:=default) (aFa.2 rfl) h;exact this
theorem fl_set {e:Fl α}{l:List α}{i:Nat}{a:α}(h:i<l.length):splice (l.flatMap e.f) (i*e.sz) (e.f a)=(l.set i a).flatMap e.f:=by
 have:=aRx (r:=Rp.fl e) (F:=λ_=>True) (w:=default) (c:=e.f a) (x:=a) (aFa.2 rfl) h rfl;exact aFa.1 this
theorem Arr.f_get {e:Fl α}{x:Arr n α}{q:Int}{a:α}(h:at' x.l q=some a):(((Fl.arr n e).f x).drop (q.toNat*e.sz)).take e.sz=e.f a:=aUa (zY h).2.2
theorem Arr.f_set {e:Fl α}{x:Arr n α}{q:Int}{a:α}(p:0<=q)(A:q<n):splice ((Fl.arr n e).f x) (q.toNat*e.sz) (e.f a)=(Fl.arr n e).f (x.set q a):=fl_set (by rw [x.h];omega)
theorem Cells.ix {e:Fl α}{x:Arr n α}{w:World}{b o:Nat}{q:Int}{a:α}(p:Cells w ⟨b,o,none⟩ ((Fl.arr n e).f x))(h:at' x.l q=some a):Cells w ⟨b,o+q.toNat*e.sz,none⟩ (e.f a):=by
 have:=p.drop (q.toNat*e.sz) e.sz;rwa [Arr.f_get h]at this
end
section
variable {P:Program}{ρ:Env}{w w0 w1:World}{d:Option Tmp}{x y z:Operand}{t u ty:TypeId}{pos:String}{af:Array Edge}{g:Option (Nat×Bool)}
variable {v:Value}{b o i n c s m:Nat}{k k':IntKind}{cs xs vs:List Value}{T:TypeId}{O S:List Nat}{l:List Th}{α:Type}{e:Fl α}{X Y:Arr n α}{a:α}{j q:Int}{F:Nat->Prop}
theorem bK (h:Agg P t)(p:ev ρ x= .pointer (some ⟨b,o,none⟩))(A:Sz P t e.sz)(B:Cells w ⟨b,o,none⟩ (e.f a)):Do P ⟨d,.load t x,ty,pos,af,g⟩ ρ w (.agg (e.f a).toArray) w:=
 zW h p A (e.len a) B
theorem xK (f:aAo P t)(h:ev ρ x= .pointer (some ⟨b,o,none⟩))(p:Cells w ⟨b,o,none⟩ [v]):Do P ⟨d,.load t x,ty,pos,af,g⟩ ρ w v w:=
 yH f h (by have:=p.get (i:=0) (v:=v) rfl;exact this)
theorem xR (f:P.underlying t=some (.array n u))(p:Sz P u s)(A:ev ρ x= .pointer (some ⟨b,o,none⟩))(B:ev ρ y= .int k q)(h:at' X.l q=some a):
  Do P ⟨d,.indexAddr t x y,ty,pos,af,g⟩ ρ w (.pointer (some ⟨b,o+q.toNat*s,none⟩)) w:=
 Do_idxa f p A B (Arr.at_lt h).1 (Arr.at_lt h).2 rfl rfl
theorem uX (p:P.underlying t=some (.array n u))(A:aAo P u)(B:Sz P u 1)(C:e.sz=1)(D:ev ρ x= .agg ((Fl.arr n e).f X).toArray)(E:ev ρ y= .int k q)(h:at' X.l q=some a)(G:e.f a=[v]):
    Do P ⟨d,.index t x y,ty,pos,af,g⟩ ρ w v w:=by
 refine Do_index1 p A B D E (Arr.at_lt h).1 (Arr.at_lt h).2 ?_;have:=Arr.f_get (e:=e) h;rw [C,G,Nat.mul_one]at this;have:=congrArg (λl=>l[0]?) this;simpa [List.getElem?_take,List.getElem?_drop]using this
theorem Lx_storeA (H:Hd O w0 w S l)(m:Nat)(hi:l[m]? =some (.blk b ((Fl.arr n e).f X) T))(A:Sz P t e.sz)(B:ev ρ x= .pointer (some ⟨b,0+j.toNat*e.sz,none⟩))(C:ev ρ y=v)(D:v.cells=(e.f a).toArray)(E:0<=j)(G:j<n)(I:X.set j a=Y):
  ∃w',DoU P ⟨none,.store t x y,ty,pos,af,g⟩ ρ w w'/\Hd O w0 w' S (l.set m (.blk b ((Fl.arr n e).f Y) T)):=by
 subst I;have h:0+j.toNat*e.sz+(e.f a).length<=((Fl.arr n e).f X).length:=by
  rw [(Fl.arr n e).len,e.len,Nat.zero_add,<-Nat.succ_mul];exact Nat.mul_le_mul_right _ (by omega)
 obtain⟨w',J,p⟩:=vF (P:=P) (ρ:=ρ) (ty:=ty) (pos:=pos) (af:=af) (g:=g) A (e.len a) B (by rw [C,D]) (e.one a) (H.V hi) h;rw [Nat.zero_add,Arr.f_set E G]at p;exact⟨w',J,H.wr hi p⟩
theorem Lx_storeW {e:Fl α}(H:Hd O w0 w S l)(m:Nat)(hi:l[m]? =some (.blk b (e.f a) T)){a':α}(p:Sz P t e.sz)(A:ev ρ x= .pointer (some ⟨b,0,none⟩))(B:ev ρ y= .agg (e.f a').toArray):
    ∃w',DoU P ⟨none,.store t x y,ty,pos,af,g⟩ ρ w w'/\Hd O w0 w' S (l.set m (.blk b (e.f a') T)):=by
 obtain⟨w',C,h⟩:=aRa (P:=P) (ρ:=ρ) (ty:=ty) (pos:=pos) (af:=af) (g:=g) p (e.len a') A B (e.one a') (H.V hi) (by rw [e.len,e.len];omega);rw [aKb (by rw [e.len,e.len])]at h;exact⟨w',C,H.wr hi h⟩
theorem Hd.freezeB (H:Hd O w0 w S l)(hi:l[i]? =some (.blk b cs T)):Hd O w0 w S (l.set i (.fz (.at b 0 cs))):=by
 refine H.turn hi (Only.refl _ w) (λ_=>?_) (by simp [Th.blocks]) (by simp [Th.blocks]);have A:=H.V hi;have f:b∈(Th.blk b cs T).blocks:=by simp [Th.blocks]
 refine⟨⟨H.notO (qS hi) f,λhm=>?_⟩,Blk.lt A,Blk.cells A⟩;rcases aXw hm with h|⟨j,x,B,C,p⟩
 ·simp [Th.blocks]at h
 ·exact H.apart C hi B b p f
def EqF (P:Program)(t:TypeId)(e:Fl α) [DecidableEq α] (k:Nat):Prop:=
 ∀D (xs h:Array Value) (i:Nat) (a b:α) (w:World),(xs.toList.drop i).take e.sz=e.f a->(h.toList.drop i).take e.sz=e.f b->
  ∃u v,(part t xs i).run P w= .ok u w/\(part t h i).run P w= .ok v w/\(Op.equalIn (D+k) t u v).run P w= .ok (decide (a=b)) w
theorem aLp (f:aAo P t){xs:Array Value}{i:Nat}{v:Value}(h:(xs.toList.drop i).take 1=[v])(w:World):(part t xs i).run P w= .ok v w:=by
 have p:xs[i]? =some v:=by
  have:=congrArg (λl=>l[0]?) h;simpa [List.getElem?_take,List.getElem?_drop]using this
 simp [part,wL f,p]
theorem wS (f:Agg P t)(h:Sz P t n){xs:Array Value}{i:Nat}(w:World):(part t xs i).run P w= .ok (.agg ((xs.toList.drop i).take n).toArray) w:=by
 simp only [part,Sem.run_bind,aCx f,Result.andThen_ok,if_true,bC h,Sem.run_pure];congr 2;apply Array.ext';simp
theorem EqF.up [DecidableEq α] {k k':Nat}(h:EqF P t e k)(B:k<=k'):EqF P t e k':=by
 intro D xs f i a b w p A;have:=h (D+(k'-k)) xs f i a b w p A;rwa [show D+(k'-k)+k=D+k' by omega]at this
theorem EqF.int {f:IntKind}(h:P.underlying t=some (.int f)):EqF P t (Fl.int f) 1:=by
 have p:aAo P t:=by unfold aAo;rw [h];rfl
 intro D xs _ i a b w A B;refine⟨_,_,aLp p A w,aLp p B w,?_⟩;rw [run_equalIn_int w D t f f _ _ h];rfl
theorem EqF.arr [DecidableEq α] {k:Nat} (hu:P.underlying t=some (.array n u)) (B:Sz P u e.sz) (E:Sz P t (n*e.sz)) (he:EqF P u e k):EqF P t (Fl.arr n e) (k+1):=by
 have ho:Agg P t:=by unfold Agg;rw [hu];rfl
 intro D xs ys i a b w G I;have G:(xs.toList.drop i).take (n*e.sz)=(Fl.arr n e).f a:=G;have I:(ys.toList.drop i).take (n*e.sz)=(Fl.arr n e).f b:=I;refine⟨_,_,wS ho E w,wS ho E w,?_⟩;rw [G,I];unfold Sz at B
 cases hi:P.info? u with
 |none=>rw [hi]at B;cases B
 |some _=>
  have hc:P.cellsOf u=e.sz:=by
   rw [hi]at B;simp at B;simp [Program.cellsOf,hi,B]
  have e0:D+(k+1)=(D+k)+1:=by omega
  rw [e0,run_equalIn_array w (D+k) _ _ hu hi,hc];have J: ∀(is:List Nat),(∀j∈is,j<n)->(Op.eqItems (D+k) u e.sz ((Fl.arr n e).f a).toArray ((Fl.arr n e).f b).toArray is).run P w= .ok (decide (∀j∈is,a.l[j]? =b.l[j]?)) w:=by
   intro is
   induction is with
   |nil=>intro _;simp [Op.eqItems]
   |cons j is K=>
    intro C;have p:=C j List.mem_cons_self;have L:a.l[j]? =some (a.l[j]'(by rw [a.h];exact p)):=gE _;have M:b.l[j]? =some (b.l[j]'(by rw [b.h];exact p)):=gE _;obtain⟨_,_,p1,p2,p3⟩:=he D ((Fl.arr n e).f a).toArray ((Fl.arr n e).f b).toArray (j*e.sz) _ _ w (aUa L) (aUa M);have K:=K (λj R=>C j (List.mem_cons_of_mem _ R));simp only [Op.eqItems,Sem.run_bind,p1,p2,p3,Result.andThen_ok]
    by_cases A:a.l[j]'(by rw [a.h];exact p)=b.l[j]'(by rw [b.h];exact p)
    ·simp only [A,decide_true,Bool.not_true,Bool.false_eq_true,if_false,K];simp [L,M,A]
    ·simp only [A,decide_false,Bool.not_false,if_true];simp [L,M,A]
  rw [J (List.range n) (λj C=>List.mem_range.1 C)]
  congr 1
  rw [decide_eq_decide];constructor
  ·intro h;apply Arr.ext;apply List.ext_getElem?;intro j
   by_cases C:j<n
   ·exact h j (List.mem_range.2 C)
   ·rw [List.getElem?_eq_none (by rw [a.h];omega),List.getElem?_eq_none (by rw [b.h];omega)]
  ·intro h j _;rw [h]
theorem Do_eqlF [DecidableEq α] {k:Nat}{a b:α}(B:P.eqGuardType P.depth t=false)(C:EqF P t e k)(D:k<=10000)(E:Agg P t)(G:Sz P t e.sz)(I:ev ρ x= .agg (e.f a).toArray)(J:ev ρ y= .agg (e.f b).toArray):Do P ⟨d,.binOp .eql t x y u,ty,pos,af,g⟩ ρ w (.bool (decide (a=b))) w:=by
 obtain⟨_,_,h,p,A⟩:=C (10000-k) (e.f a).toArray (e.f b).toArray 0 a b w (by simp [List.take_of_length_le,e.len]) (by simp [List.take_of_length_le,e.len]);rw [wS E G]at h p;simp only [List.drop_zero,List.take_of_length_le (Nat.le_of_eq (e.len a)),List.take_of_length_le (Nat.le_of_eq (e.len b))]at h p;cases h;cases p;rw [Nat.sub_add_cancel D]at A;exact Do_eqagg B I J A
def aKi (P:Program)(p:List Field)(o:Nat)(e:Fl α) [DecidableEq α] (k:Nat):Prop:=
 ∀D (xs h:Array Value) (a b:α) (w:World),(xs.toList.drop o).take e.sz=e.f a->(h.toList.drop o).take e.sz=e.f b->(Op.eqFields (D+k) xs h p).run P w= .ok (decide (a=b)) w
theorem aKi.one [DecidableEq α] {f:Field}{k:Nat}(A:f.offset=o)(B:f.name≠ "_")(h:EqF P f.type e k):aKi P [f] o e k:=by
 subst A;intro D xs C a b w E G;obtain⟨u,v,I,J,K⟩:=h D xs C _ a b w E G;simp only [Op.eqFields,B,ne_eq,not_false_eq_true,if_true,Sem.run_bind,I,J,K,Result.andThen_ok];by_cases p:a=b<;>simp [p]
theorem aKi.cons {β:Type} [DecidableEq α] [DecidableEq β] {p:Fl β}{f:Field}{C:List Field}{k:Nat} (I:f.offset=o) (J:f.name≠ "_") (h:EqF P f.type e k) (K:aKi P C (o+e.sz) p k):aKi P (f::C) o (Fl.pair e p) k:=by
 subst I;intro D xs B a b w E G;have t1: ∀(zs:Array Value) (c:α×β),(zs.toList.drop f.offset).take (e.sz+p.sz)=e.f c.1++p.f c.2->(zs.toList.drop f.offset).take e.sz=e.f c.1/\(zs.toList.drop (f.offset+e.sz)).take p.sz=p.f c.2:=by
  intro zs c h;constructor
  ·have:=congrArg (List.take e.sz) h;rw [List.take_take,Nat.min_eq_left (by omega),List.take_left' (e.len _)]at this;exact this
  ·have:=congrArg (List.drop e.sz) h;rw [List.drop_take,List.drop_drop,Nat.add_sub_cancel_left,List.drop_left' (e.len _)]at this;exact this
 obtain⟨u,v,L,M,R⟩:=h D xs B _ a.1 b.1 w (t1 xs a E).1 (t1 B b G).1;have q:=K D xs B a.2 b.2 w (t1 xs a E).2 (t1 B b G).2;simp only [Op.eqFields,J,ne_eq,not_false_eq_true,if_true,Sem.run_bind,L,M,R,Result.andThen_ok];obtain⟨a1,a2⟩:=a;obtain⟨b1,_⟩:=b
 by_cases A:a1=b1
 ·simp [A,q]
 ·simp [A]
theorem EqF.struct {β:Type} [DecidableEq α] [DecidableEq β] {p:Array Field}{k:Nat}{g:β->α}(J: ∀x y,g x=g y->x=y)(A:P.underlying t=some (.struct p))(K:P.stoodInHeld t=false)(E:Sz P t e.sz)(h:aKi P p.toList 0 e k):EqF P t (Fl.iso e g) (k+1):=by
 have G:Agg P t:=by unfold Agg;rw [A];rfl
 have I:P.fieldsOf t=p:=by simp [Program.fieldsOf,A]
 intro D xs L i a b w B C;have B:(xs.toList.drop i).take e.sz=e.f (g a):=B;have C:(L.toList.drop i).take e.sz=e.f (g b):=C;refine⟨_,_,wS G E w,wS G E w,?_⟩;rw [B,C];have M:D+(k+1)=(D+k)+1:=by omega
 rw [M,run_equalIn_struct w (D+k) t _ _ (by rw [I];exact A) K,I,h D _ _ (g a) (g b) w (by simp [List.take_of_length_le,e.len]) (by simp [List.take_of_length_le,e.len])];congr 1;rw [decide_eq_decide];exact⟨J a b,λh=>by rw [h]⟩
end
open Go.ChangeShapes Go.WideShapes Go.ChangeAt
section
variable {H:Type}{enc:TypeId×Value->H}{P:Program}{w:World}{base:Nat}{sp:Nat->Bool}{held:Bool}
def All (_:Nat):Prop:=True
def bV (enc:TypeId×Value->H)(P:Program)(w:World)(base:Nat)(sp:Nat->Bool)(held:Bool)(t:TypeId){α:Type}(r:Rp α)(h:α->Prop):Prop:=
 ∀f cs x,DataW.trod enc P w base sp held f t cs=some x-> ∃a,r.rd All w cs a/\h a
theorem aNh {t:TypeId}{k:IntKind}(p:P.underlying t=some (.int k)):bV enc P w base sp held t (Rp.int k) (λz=>(Lit.int k z).wf=true):=by
 intro _ cs x h;obtain⟨z,A,_,B⟩:=DataW.trod_int p h;exact⟨z,A,B⟩
theorem aUr {t:TypeId}(p:P.underlying t=some .bool):bV enc P w base sp held t Rp.bool (λ_=>True):=by
 intro _ cs x h;obtain⟨b,A,_⟩:=DataW.trod_bool p h;exact⟨b,A,trivial⟩
theorem opens_str {t:TypeId} (A:P.underlying t=some .string):bV enc P w base sp held t Rp.str (λs=>s.length<=9223372036854775807):=by
 intro _ cs x h;obtain⟨s,B,_,C⟩:=DataW.trod_string A h;refine⟨s.data.toList,?_,?_⟩;rw [B];rfl;have p:=C;rw [maxLen_eq]at p;show s.data.toList.length<=_;rw [Array.length_toList];exact p
theorem aVj {a:Addr}{n:Nat}{cs:List Value}(h:w.cells? base a n=some cs):cs.length=n/\ ∀i v,cs[i]? =some v->w.cell? (a.add i)=some v:=by
 obtain⟨_,p,A⟩:=World.cells?_some h;refine⟨p,λi v f=>?_⟩;have hi:i<n:=by have:=(gS.1 f).1;omega
 rw [A i hi];exact f
theorem add_add (a:Addr) (p q:Nat):(a.add p).add q=a.add (p+q):=by
 unfold Addr.add;by_cases f:p=0;subst f;simp;by_cases h:q=0;subst h;simp;rw [if_neg f,if_neg h,if_neg (by omega)];simp [Nat.add_assoc]
theorem aPa {a:Addr}{v:Value} (h:w.cell? a=some v):a.spot=none:=by
 unfold World.cell? at h;split at h;split at h;cases h;rename_i f;simpa using f;cases h
theorem gather {e:TypeId}{α:Type}{r:Rp α}{C:α->Prop}{a:Addr} (D:bV enc P w base sp held e r C) (len:Nat)
  (f: ∀i,i<len-> ∃cs' n d,w.cells? base (a.add (i*r.sz)) r.sz=some cs'/\DataW.trod enc P w base sp held n e cs'=some d):
  ∀n,n<=len-> ∃(xs:List Value) (l:List α),rows r All w xs l/\l.length=n/\(∀k v,xs[k]? =some v->w.cell? (a.add k)=some v)/\ ∀x∈l,C x
 |0,_=>⟨[],[],rfl,rfl,by simp,by simp⟩
 |n+1,hn=>by
  obtain⟨xs,l,E,G,J,K⟩:=gather D len f n (by omega);obtain⟨c,m,d,L,M⟩:=f n (by omega);obtain⟨y,R,h8⟩:=D _ _ _ M;obtain⟨_,A⟩:=aVj L;have B:=vI E;refine⟨xs++c,l++[y],wV E (aHm R),by simp [G],λk v p=>?_,λx B=>?_⟩
  ·by_cases I:k<xs.length
   ·rw [List.getElem?_append_left I]at p;exact J k v p
   ·rw [List.getElem?_append_right (by omega)]at p;have:=A _ v p;rwa [add_add,show n*r.sz+(k-xs.length)=k by rw [B,G]at I⊢;omega]at this
  ·rcases mA.1 B with h|h
   ·exact K x h
   ·obtain rfl:=mS.1 h;exact h8
theorem pR {t e:TypeId}{α:Type}{r:Rp α}{I:α->Prop} (R:P.underlying t=some (.slice e)) (hc:P.cellsOf e=r.sz) (f:0<r.sz) (he:bV enc P w base sp held e r I):
  bV enc P w base sp held t (Rp.sl r) (λl=>l.length<=9223372036854775807/\ ∀x∈l,I x):=by
 intro _ cs x h;rcases Deep.open_slice R h with ⟨rfl,_⟩|⟨a,len,cap,m,n,_,_,rfl,K,_,hm,C,_,E⟩
 ·exact⟨[],⟨_,rfl,SlF.nil⟩,by simp,by simp⟩
 ·have ac:len<=m:=by rw [C];split<;>omega
  rw [maxLen_eq]at hm;obtain⟨xs,l,A,B,L,h4⟩:=gather (a:=a) he len (λi _=>by
   obtain⟨c,A,B⟩:=E i (by omega);exact⟨c,n,_,by rw [<-hc];exact A,B⟩) len (Nat.le_refl _)
  have M:=vI A;have p:0<len->a.spot=none/\a.block<w.heap.size:=by
   intro h0;have G:0<xs.length:=by rw [M,B];exact Nat.mul_pos h0 f
   have:=L 0 xs[0] (gE G);have e0:a.add 0=a:=by simp [Addr.add]
   rw [e0]at this;exact⟨aPa this,World.block_lt_of_cell? _ _ this⟩
  refine⟨l,⟨_,rfl,xs,A,⟨M,.inr ⟨a,cap,by rw [B],by omega,by rw [maxLen_eq];omega,λh=>(p (by omega)).1,L⟩⟩,λh b K=>⟨trivial,?_⟩⟩,by omega,h4⟩;have:b=a.block:=by simpa [qG,eq_comm]using K
  rw [this];exact(p (by omega)).2
def aEw (P:Program)(t:TypeId)(i:Nat):Option (TypeId×Nat):=
 match P.underlying t with
 |some (.struct h)=>(h[i]?).map λf=>(f.type,f.offset)
 |_=>none
theorem aUy {t ft:TypeId}{i off p:Nat}{cs:List Value}{x:DataW H×List MemPlace} (E:aEw P t i=some (ft,off)) (h:DataW.trod enc P w base sp held p t cs=some x):
    ∃n y,DataW.trod enc P w base sp held n ft ((cs.drop off).take (P.cellsOf ft))=some y:=by
 unfold aEw at E;split at E;rename_i _ I;obtain⟨f,A,B⟩:=Option.map_eq_some_iff.1 E;obtain⟨xs,n,rfl,_,_,C,D⟩:=DataW.trod_struct I h;have hi:=D i f A;have G:i<xs.length:=by rw [C];exact(Array.getElem?_eq_some_iff.1 A).1
 rw [gE G]at hi;have J:f.type=ft:=congrArg Prod.fst B;have K:f.offset=off:=congrArg Prod.snd B;rw [J,K]at hi;exact⟨n,_,hi⟩;cases E
theorem nD {t ft:TypeId}{i off f:Nat}{cs:List Value}{x:DataW H×List MemPlace} (p:aEw P t i=some (ft,off)) (h:DataW.trod enc P w base sp held f t cs=some x):cs.length=P.cellsOf t:=by
 unfold aEw at p;split at p;rename_i _ A;obtain⟨xs,n,_,_,B,_⟩:=DataW.trod_struct A h;exact B;cases p
theorem xP {t ft:TypeId}{α:Type}{r:Rp α}{p:α->Prop}{i off f s:Nat}{cs:List Value}{x:DataW H×List MemPlace}(B:bV enc P w base sp held ft r p)(C:aEw P t i=some (ft,off))(D:P.cellsOf ft=s)(h:DataW.trod enc P w base sp held f t cs=some x):
    ∃a,r.rd All w ((cs.drop off).take s) a/\p a:=by
 obtain⟨n,y,A⟩:=aUy C h;rw [D]at A;exact B _ _ _ A
theorem wF {α β:Type}{a:Rp α}{b:Rp β}{F:Nat->Prop}{cs:List Value}{o m s u:Nat}{x:α}{y:β}(f:a.rd F w ((cs.drop o).take s) x)(h:b.rd F w ((cs.drop m).take u) y)(e:o+s=m):(Rp.pair a b).rd F w ((cs.drop o).take (s+u)) (x,y):=by
 subst e;refine⟨_,_,?_,f,h⟩;rw [List.take_add,List.drop_drop]
end
def i64 (z:Int):Prop:= -9223372036854775808<=z/\z<=9223372036854775807
def okS (s:Str):Prop:=s.length<=9223372036854775807
def okL {α:Type}(f:α->Prop)(l:List α):Prop:=l.length<=9223372036854775807/\ ∀x∈l,f x
theorem opens_i64 {H:Type}{enc:TypeId×Value->H}{P:Program}{w:World}{base:Nat}{sp:Nat->Bool}{held:Bool}{t:TypeId}(p:P.underlying t=some (.int .i64)):bV enc P w base sp held t (Rp.int .i64) (λz=>i64 z):=by
 intro f cs x h;obtain⟨z,A,B⟩:=aNh p f cs x h;exact⟨z,A,bounds_i64 B⟩
def isAgg? (P:Program)(t:TypeId):Bool:=match P.underlying t with
 |some (.struct _)=>true
 |_=>false
theorem aTp {P:Program}{w:World}{r:Reach}{base:Nat}{t:TypeId}{v:Value} (f:isAgg? P t=true) (h:Value.okWide P w r base t v): ∃cs,v= .agg cs:=by
 unfold isAgg? at f;unfold Value.okWide at h;split at f;rename_i _ p;rw [p]at h;obtain⟨cs,A,_⟩:=h;exact⟨cs,A⟩;cases f
theorem aJd {α:Type}{r:Rp α}{w:World}{v:Value}{l:List α}(h:SlF r All w v l):SlF r (frees [] []) w v l:=
 SlF.mono (λb _ _=>⟨⟨by simp,by simp [bks]⟩,rfl⟩) h
theorem Hd.fresh0 (w:World):Hd [] w w [] []:=⟨Only.refl _ w,by simp,by simp,by simp [bks],by simp⟩
section
variable {P:Program}{N:Nat}{Q:Exit->Env->World->Prop}{ρ:Env}{w w0 w1 w':World}{O S:List Nat}{l l2:List Th}{i:Nat}
theorem oS: ∀w w',Only S w0 w->fJ w w'->Only S w0 w':=λ_ _ h f=>h.step (Only.of_below f) (by simp)
theorem Hd.rb (H:Hd O w0 w S l):Hd O w w (bks l) l:=
 ⟨Only.refl _ w,H.holds,λh hm b f=>⟨.inr (aI.2 ⟨h,hm,f⟩),(H.own h hm b f).2⟩,H.nd,λb f=>⟨Nat.lt_of_lt_of_le (H.fo b f).1 H.only.size,λhm=>by
  obtain⟨h,hi,p⟩:=aI.1 hm;exact H.notO hi p f⟩⟩
theorem Hd.rj (H:Hd O w0 w S l)(G:Hd O w w' (bks l) l2):Hd O w0 w' S l2:=by
 have f: ∀b∈bks l,w0.heap.size<=b\/b∈S:=λb p=>by
  obtain⟨A,hi,B⟩:=aI.1 p;exact(H.own A hi b B).1
 refine⟨H.only.step G.only f,G.holds,λA hm b p=>⟨?_,(G.own A hm b p).2⟩,G.nd,H.fo⟩;rcases(G.own A hm b p).1 with h|h
 ·exact .inl (Nat.le_trans H.only.size h)
 ·exact f b h
theorem Hd.firm (H:Hd O w w (bks l) l){p:Fz}(hi:l[i]? =some (.fz p)): ∀w',Only (bks l) w w'->p.p (frees O l) w':=λ_ h=>
 p.mono (λb f A=>⟨f,h.block b A f.2⟩) (H.V hi)
theorem Hd.firmC (_H:Hd O w w (bks l) l){b o:Nat}{cs:List Value}(h:frees O l b)(p:b<w.heap.size)(A:Cells w ⟨b,o,none⟩ cs): ∀w',Only (bks l) w w'->Cells w' ⟨b,o,none⟩ cs:=λ_ B=>
 (Cells.same (F:=frees O l) (F':=frees O l) (λb f C=>⟨f,B.block b C f.2⟩) h p A).2.2
theorem Fz.all {F:Nat->Prop}{p:Fz}(h:p.p F w):p.p (frees [] []) w:=p.mono (λb _ _=>⟨by simp [frees,bks],rfl⟩) h
theorem noMk {f:List MxM.Kd}(h:f.all (λk=> !k.isMk)=true)(i B:Nat):MxM.kdOf f i≠ .mk B:=by
 intro e;unfold MxM.kdOf at e;rw [List.getD_eq_getElem?_getD]at e
 cases hx:f[i]? with
 |none=>rw [hx]at e;cases e
 |some k=>
  rw [hx]at e;have q:=List.all_eq_true.1 h k (qS hx);have e:k= .mk B:=e;subst e
  cases q
def kz (l:List Nat):List MxM.Kd:=l.map λn=>match n with
 |0=> .pure
 |1=> .read
 |2=> .new
 |3=> .eff
 |_=> .fcall
theorem WP_mix {id:Nat}{c:List Oper}(_H:Hd O w w S l)(σ:List Nat)(f:List MxM.Kd)(hm:P.follows .mixedOrders=true)(h:MxM.XL P (λw'=>Only S w w') N c.toArray f (λ_ ρ w=>Q .normal ρ w) (some λ_=>False) σ (MxM.sel c σ) ρ w)
  (C:Region.noSelect c.toArray=true:=by kernel_rfl)(p:MxM.edgesB .any c.toArray=true:=by kernel_rfl)(D:MxM.pairB .any c.toArray (MxM.kdOf f) σ=true:=by kernel_rfl)(A:σ.isPerm (List.range c.length)=true:=by decide)(E:f.all (λk=> !k.isMk)=true:=by rfl):WP P N (.region id c.toArray true) Q ρ w:=
 MxM.WP_mix σ f (λi B e=>absurd e (noMk E i B)) hm C p D A (λ_ _=>oS _ _) (Only.refl S w) h
theorem yV {id:Nat}{c:List Oper}(_H:Hd O w w S l)(σ:List Nat)(f:List MxM.Kd)(hm:P.follows .mixedOrders=true)(h:MxM.XL P (λw'=>Only S w w') N c.toArray f (λ_ ρ w=>Q .normal ρ w) (some λ_=>False) σ c ρ w)
  (C:Region.noSelect c.toArray=true:=by kernel_rfl)(p:MxM.edgesB .any c.toArray=true:=by kernel_rfl)(D:MxM.pairB .any c.toArray (MxM.kdOf f) σ=true:=by kernel_rfl)(A:σ=List.range c.length:=by rfl)(E:f.all (λk=> !k.isMk)=true:=by rfl):WP P N (.region id c.toArray true) Q ρ w:=
 MxM.yV σ f (λi B e=>absurd e (noMk E i B)) hm C p D A (λ_ _=>oS _ _) (Only.refl S w) h
end
section
variable {P:Program}{ρ:Env}{w w0 w1:World}{d:Option Tmp}{x y z:Operand}{t u ty e:TypeId}{pos:String}{af:Array Edge}{g:Option (Nat×Bool)}
variable {v:Value}{b o i n c s:Nat}{k k':IntKind}{cs xs vs:List Value}{T:TypeId}{O S:List Nat}{l:List Th}{α:Type}{r:Rp α}{xl yl zl:List α}{a:α}{j:Int}{F:Nat->Prop}
theorem aEm {R Y:Value->World->Prop}{f:Oper}(h: ∃v w',Do P f ρ w v w'/\R v w')(k: ∃v w',Do P f ρ w v w'/\Y v w'): ∃v w',Do P f ρ w v w'/\Y v w'/\R v w':=by
 obtain⟨v,w',p,B⟩:=h;obtain⟨v2,C,A,D⟩:=k;have:v=v2/\w'=C:=by
  unfold Do at p A;rw [p]at A
  injection A with a b
  injection a with a
  exact⟨a,b⟩
 obtain⟨rfl,rfl⟩:=this;exact⟨v,w',p,D,B⟩
theorem aEv {len bytes s:Nat}{zs:List Value}{parts:Array (Nat×Operand)}(A:P.underlying t=some (.slice e))(B:El P e s bytes zs)(f:len*s<=16777216)(h:0<len*s)
    (C:jC s len zs (parts.toList.map λp=>(p.1,ev ρ p.2))=some cs): ∃v w',Do P ⟨d,.buildSlice t len parts,ty,pos,af,g⟩ ρ w v w'/\fJ w w':=by
 obtain⟨v,w',D,b,rfl,E⟩:=Ex_bs (P:=P) (ρ:=ρ) (w:=w) (d:=d) (ty:=ty) (pos:=pos) (af:=af) (g:=g) A B f h C;exact⟨_,w',D,E.only.below⟩
end
end Go.Lf
