/- Laws that the claim stands on; no condition beyond those stated. -/
import Derived.Test.YthgccglopkgghaaGreatDoorLfP
import Derived.Test.YthgccglopkgghaaGreatDoorObC
import Derived.Deep.Slices
namespace Go.Lf
open Go.RowKit Go.OB
structure Arr (n:Nat)(α:Type) where
 l:List α
 h:l.length=n
theorem Arr.ext {n:Nat}{α:Type}: ∀{x y:Arr n α},x.l=y.l->x=y
 |⟨_,_⟩,⟨_,_⟩,h=>by cases h;rfl
instance {n:Nat}{α:Type} [DecidableEq α]:DecidableEq (Arr n α):=λx y=>decidable_of_iff (x.l=y.l) ⟨Arr.ext,λh=>by rw [h]⟩
theorem Arr.at_lt {n:Nat}{α:Type}{x:Arr n α}{q:Int}{a:α}(h:at' x.l q=some a):0<=q/\q<n:=by
 have:=xB h;rw [x.h]at this;exact⟨this.1,this.2.1⟩
structure Fl (α:Type) where
 sz:Nat
 f:α->List Value
 len: ∀x,(f x).length=sz
 one: ∀x,∀v∈f x,v.oneCell'=true
section
variable {α β:Type}{n:Nat}
def Fl.int (k:IntKind):Fl Int:=⟨1,λx=>[.int k x],λ_=>rfl,λ_ v h=>by obtain rfl:=mS.1 h;rfl⟩
def Fl.str:Fl Str:=⟨1,λx=>[.string (bs x)],λ_=>rfl,λ_ v h=>by obtain rfl:=mS.1 h;rfl⟩
theorem sW (e:Fl α): ∀l:List α,(l.flatMap e.f).length=l.length*e.sz
 | []=>by simp
 |x::l=>by rw [List.flatMap_cons,List.length_append,e.len,sW e l,List.length_cons,Nat.add_mul];omega
def Fl.arr (n:Nat)(e:Fl α):Fl (Arr n α):=⟨n*e.sz,λx=>x.l.flatMap e.f,λx=>by rw [sW,x.h],λx v h=>by obtain⟨y,_,p⟩:=List.mem_flatMap.1 h;exact e.one y v p⟩
def Rp.fl (e:Fl α):Rp α:=⟨e.sz,λ_ _ cs x=>cs=e.f x,λh=>by subst h;exact e.len _,λh=>by subst h;exact e.one _,λ_ h=>h⟩
theorem aEm {e:Fl α}{F:Nat->Prop}{w:World}: ∀{l:List α}{cs:List Value},rows (Rp.fl e) F w cs l↔cs=l.flatMap e.f
 | [],cs=>Iff.rfl
 |x::l,cs=>by
  constructor
  ·rintro⟨c,d,rfl,h,p⟩;have h:c=e.f x:=h;rw [h,aEm.1 p];rfl
  ·rintro rfl;exact⟨e.f x,l.flatMap e.f,rfl,rfl,aEm.2 rfl⟩
theorem fl_get {e:Fl α}{l:List α}{i:Nat}{a:α}(h:l[i]? =some a):((l.flatMap e.f).drop (i*e.sz)).take e.sz=e.f a:=by
 have:=aAo (r:=Rp.fl e) (F:=λ_=>True) (w:=default) (aEm.2 rfl) h;exact this
theorem Arr.f_get {e:Fl α}{x:Arr n α}{q:Int}{a:α}(h:at' x.l q=some a):(((Fl.arr n e).f x).drop (q.toNat*e.sz)).take e.sz=e.f a:=fl_get (xB h).2.2
theorem Cells.ix {e:Fl α}{x:Arr n α}{w:World}{b o:Nat}{q:Int}{a:α}(p:Cells w ⟨b,o,none⟩ ((Fl.arr n e).f x))(h:at' x.l q=some a):Cells w ⟨b,o+q.toNat*e.sz,none⟩ (e.f a):=by
 have:=p.drop (q.toNat*e.sz) e.sz;rwa [Arr.f_get h]at this
end
section
variable {P:Program}{ρ:Env}{w w0 w1:World}{d:Option Tmp}{x y z:Operand}{t u ty:TypeId}{pos:String}{af:Array Edge}{g:Option (Nat×Bool)}
variable {v:Value}{b o i n c s m:Nat}{k k':IntKind}{cs xs vs:List Value}{T:TypeId}{O S:List Nat}{l:List Th}{α:Type}{e:Fl α}{X Y:Arr n α}{a:α}{j q:Int}{F:Nat->Prop}
theorem aBv (f:uN P t)(h:ev ρ x= .pointer (some ⟨b,o,none⟩))(p:Cells w ⟨b,o,none⟩ [v]):Do P ⟨d,.load t x,ty,pos,af,g⟩ ρ w v w:=
 yP f h (by have:=p.get (i:=0) (v:=v) rfl;exact this)
theorem aEf (f:P.underlying t=some (.array n u))(p:Sz P u s)(A:ev ρ x= .pointer (some ⟨b,o,none⟩))(B:ev ρ y= .int k q)(h:at' X.l q=some a):
  Do P ⟨d,.indexAddr t x y,ty,pos,af,g⟩ ρ w (.pointer (some ⟨b,o+q.toNat*s,none⟩)) w:=
 aJz f p A B (Arr.at_lt h).1 (Arr.at_lt h).2 rfl rfl
theorem Hd.freezeB (H:Hd O w0 w S l)(hi:l[i]? =some (.blk b cs T)):Hd O w0 w S (l.set i (.fz (.at b 0 cs))):=by
 refine H.turn hi (Only.refl _ w) (λ_=>?_) (by simp [Th.blocks]) (by simp [Th.blocks]);have A:=H.V hi;have f:b∈(Th.blk b cs T).blocks:=by simp [Th.blocks]
 refine⟨⟨H.notO (qS hi) f,λB=>?_⟩,Blk.lt A,Blk.cells A⟩;rcases aKb B with h|⟨j,x,C,D,p⟩
 ·simp [Th.blocks]at h
 ·exact H.apart D hi C b p f
theorem part_one (f:uN P t){xs:Array Value}{i:Nat}{v:Value}(h:(xs.toList.drop i).take 1=[v])(w:World):(part t xs i).run P w= .ok v w:=by
 have p:xs[i]? =some v:=by
  have:=congrArg (λl=>l[0]?) h;simpa [List.getElem?_take,List.getElem?_drop]using this
 simp [part,uD f,p]
end
open Go.ChangeShapes Go.WideShapes Go.ChangeAt
section
variable {H:Type}{enc:TypeId×Value->H}{P:Program}{w:World}{base:Nat}{sp:Nat->Bool}{held:Bool}
def All (_:Nat):Prop:=True
def Opens (enc:TypeId×Value->H)(P:Program)(w:World)(base:Nat)(sp:Nat->Bool)(held:Bool)(t:TypeId){α:Type}(r:Rp α)(h:α->Prop):Prop:=
 ∀f cs x,DataW.trod enc P w base sp held f t cs=some x-> ∃a,r.rd All w cs a/\h a
theorem opens_str {t:TypeId} (A:P.underlying t=some .string):Opens enc P w base sp held t Rp.str (λs=>s.length<=9223372036854775807):=by
 intro _ cs x h;obtain⟨s,B,_,C⟩:=DataW.trod_string A h;refine⟨s.data.toList,?_,?_⟩;rw [B];rfl;have p:=C;rw [maxLen_eq]at p;show s.data.toList.length<=_;rw [Array.length_toList];exact p
end
def i64 (z:Int):Prop:= -9223372036854775808<=z/\z<=9223372036854775807
def okS (s:Str):Prop:=s.length<=9223372036854775807
def okL {α:Type}(f:α->Prop)(l:List α):Prop:=l.length<=9223372036854775807/\ ∀x∈l,f x
theorem Hd.fresh0 (w:World):Hd [] w w [] []:=⟨Only.refl _ w,by simp,by simp,by simp [bks],by simp⟩
section
variable {P:Program}{N:Nat}{Q:Exit->Env->World->Prop}{ρ:Env}{w w0 w1 w':World}{O S:List Nat}{l l2:List Th}{i:Nat}
theorem oS: ∀w w',Only S w0 w->gZ w w'->Only S w0 w':=λ_ _ h f=>h.step (Only.of_below f) (by simp)
theorem Hd.rb (H:Hd O w0 w S l):Hd O w w (bks l) l:=
 ⟨Only.refl _ w,H.holds,λp h b f=>⟨.inr (bH.2 ⟨p,h,f⟩),(H.own p h b f).2⟩,H.nd,λb f=>⟨Nat.lt_of_lt_of_le (H.fo b f).1 H.only.size,λh=>by
  obtain⟨p,hi,A⟩:=bH.1 h;exact H.notO hi A f⟩⟩
theorem Hd.rj (H:Hd O w0 w S l)(G:Hd O w w' (bks l) l2):Hd O w0 w' S l2:=by
 have f: ∀b∈bks l,w0.heap.size<=b\/b∈S:=λb p=>by
  obtain⟨A,hi,B⟩:=bH.1 p;exact(H.own A hi b B).1
 refine⟨H.only.step G.only f,G.holds,λA C b p=>⟨?_,(G.own A C b p).2⟩,G.nd,H.fo⟩;rcases(G.own A C b p).1 with h|h
 ·exact .inl (Nat.le_trans H.only.size h)
 ·exact f b h
theorem Hd.firm (H:Hd O w w (bks l) l){p:Fz}(hi:l[i]? =some (.fz p)): ∀w',Only (bks l) w w'->p.p (frees O l) w':=λ_ h=>
 p.mono (λb f A=>⟨f,h.block b A f.2⟩) (H.V hi)
theorem noMk {κ:List MxM.Kd}(h:κ.all (λk=> !k.isMk)=true)(i B:Nat):MxM.kdOf κ i≠ .mk B:=by
 intro e;unfold MxM.kdOf at e;rw [List.getD_eq_getElem?_getD]at e
 cases hx:κ[i]? with
 |none=>rw [hx]at e;cases e
 |some k=>
  rw [hx]at e;have q:=List.all_eq_true.1 h k (qS hx);have e:k= .mk B:=e;subst e
  cases q
def kz (l:List Nat):List MxM.Kd:=l.map λn=>match n with
 |0=> .pure
 |1=> .read
 |2=> .new
 |3=> .eff
 |_=> .fcall
theorem WP_mix {id:Nat}{c:List Oper}(_H:Hd O w w S l)(σ:List Nat)(κ:List MxM.Kd)(A:P.follows .mixedOrders=true)(h:MxM.XL P (λw'=>Only S w w') N c.toArray κ (λ_ ρ w=>Q .normal ρ w) (some λ_=>False) σ (MxM.sel c σ) ρ w)
  (C:Region.noSelect c.toArray=true:=by kernel_rfl)(f:MxM.edgesB .any c.toArray=true:=by kernel_rfl)(D:MxM.pairB .any c.toArray (MxM.kdOf κ) σ=true:=by kernel_rfl)(p:σ.isPerm (List.range c.length)=true:=by decide)(E:κ.all (λk=> !k.isMk)=true:=by rfl):WP P N (.region id c.toArray true) Q ρ w:=
 MxM.WP_mix σ κ (λi B e=>absurd e (noMk E i B)) A C f D p (λ_ _=>oS _ _) (Only.refl S w) h
theorem WP_mix0 {id:Nat}{c:List Oper}(_H:Hd O w w S l)(σ:List Nat)(κ:List MxM.Kd)(A:P.follows .mixedOrders=true)(h:MxM.XL P (λw'=>Only S w w') N c.toArray κ (λ_ ρ w=>Q .normal ρ w) (some λ_=>False) σ c ρ w)
  (C:Region.noSelect c.toArray=true:=by kernel_rfl)(f:MxM.edgesB .any c.toArray=true:=by kernel_rfl)(D:MxM.pairB .any c.toArray (MxM.kdOf κ) σ=true:=by kernel_rfl)(p:σ=List.range c.length:=by rfl)(E:κ.all (λk=> !k.isMk)=true:=by rfl):WP P N (.region id c.toArray true) Q ρ w:=
 MxM.WP_mix0 σ κ (λi B e=>absurd e (noMk E i B)) A C f D p (λ_ _=>oS _ _) (Only.refl S w) h
end
section
variable {P:Program}{ρ:Env}{w w0 w1:World}{d:Option Tmp}{x y z:Operand}{t u ty e:TypeId}{pos:String}{af:Array Edge}{g:Option (Nat×Bool)}
variable {v:Value}{b o i n c s:Nat}{k k':IntKind}{cs xs vs:List Value}{T:TypeId}{O S:List Nat}{l:List Th}{α:Type}{r:Rp α}{xl yl zl:List α}{a:α}{j:Int}{F:Nat->Prop}
theorem uB {R Y:Value->World->Prop}{f:Oper}(h: ∃v w',Do P f ρ w v w'/\R v w')(k: ∃v w',Do P f ρ w v w'/\Y v w'): ∃v w',Do P f ρ w v w'/\Y v w'/\R v w':=by
 obtain⟨v,w',p,B⟩:=h;obtain⟨v2,C,A,D⟩:=k;have:v=v2/\w'=C:=by
  unfold Do at p A;rw [p]at A
  injection A with a b
  injection a with a
  exact⟨a,b⟩
 obtain⟨rfl,rfl⟩:=this;exact⟨v,w',p,D,B⟩
theorem tY {len bytes s:Nat}{A:List Value}{parts:Array (Nat×Operand)}(B:P.underlying t=some (.slice e))(C:El P e s bytes A)(f:len*s<=16777216)(h:0<len*s)
    (D:wE s len A (parts.toList.map λp=>(p.1,ev ρ p.2))=some cs): ∃v w',Do P ⟨d,.buildSlice t len parts,ty,pos,af,g⟩ ρ w v w'/\gZ w w':=by
 obtain⟨v,w',E,b,rfl,G⟩:=Ex_bs (P:=P) (ρ:=ρ) (w:=w) (d:=d) (ty:=ty) (pos:=pos) (af:=af) (g:=g) B C f h D;exact⟨_,w',E,G.only.below⟩
end
end Go.Lf
