/- Laws that the claim stands on; no condition beyond those stated. -/
import Derived.Test.YtnccbhdmemheeaaGreatDoorLfS
namespace Go.Lf
open Go.RowKit Go.OB
def Th.Ff (x:Th):Prop:= ∀F F' w,x.holds F w->x.holds F' w
def Rp.Ff {α:Type}(r:Rp α):Prop:= ∀F F' w cs x,r.rd F w cs x->r.rd F' w cs x
section ff
variable {α β:Type}
theorem ff_int (k:IntKind):(Rp.int k).Ff:=λ_ _ _ _ _ h=>h
theorem ff_bool:Rp.bool.Ff:=λ_ _ _ _ _ h=>h
theorem ff_pair {a:Rp α}{b:Rp β}(h:a.Ff)(p:b.Ff):(Rp.pair a b).Ff:=λ_ _ _ _ _ ⟨c,d,e,A,B⟩=>⟨c,d,e,h _ _ _ _ _ A,p _ _ _ _ _ B⟩
theorem ff_iso {a:Rp α}{f:β->α}(p:a.Ff):(Rp.iso a f).Ff:=λ_ _ _ _ _ h=>p _ _ _ _ _ h
theorem bBl {r:Rp α}(p:r.Ff){F F':Nat->Prop}{w:World}: ∀{l:List α}{cs:List Value},rows r F w cs l->rows r F' w cs l
 | [],_,h=>h
 |_::_,_,⟨c,d,e,A,B⟩=>⟨c,d,e,p _ _ _ _ _ A,bBl p B⟩
theorem th_own {r:Rp α}{v:Value}{e:TypeId}{l:List α}(h:r.Ff):(Th.own r v e l).Ff:=λ_ _ _ ⟨xs,p,A⟩=>⟨xs,bBl h p,A⟩
end ff
def allFf:List Th->Prop
 | []=>True
 |x::l=>x.Ff/\allFf l
theorem aOm: ∀{l:List Th},allFf l-> ∀x∈l,x.Ff
 | [],_,x,h=>by cases h
 |y::l,h,x,p=>by
  rcases List.mem_cons.1 p with e|e
  ·rw [e];exact h.1
  ·exact aOm h.2 x e
section hd
variable {P:Program}{ρ:Env}{w w0 w1 w':World}{d:Option Tmp}{x y z:Operand}{t u ty e:TypeId}{pos:String}{af:Array Edge}{g:Option (Nat×Bool)}
variable {v:Value}{b o i n c s m:Nat}{k k':IntKind}{cs xs vs:List Value}{bs:List Nat}{T:TypeId}{O O' S M:List Nat}{l l2:List Th}{α β:Type}{r:Rp α}{R:Rt α}{D:Hol}{xl yl zl:List α}{a:α}{j q:Int}{F:Nat->Prop}
theorem Hd.backL (H:Hd O w0 w S l)(ow:List Nat)(G:Hd O' w w' M l2)(B: ∀b∈M,b∈bks (Go.Lf.pick ow l))(C:allFf l2):Hd O w0 w' S (rest ow l++l2):=
 H.turnN ow l2 M G.only B (λb E=>by
  obtain⟨x,p,A⟩:=dS.1 E;have:=G.own x p b A;exact⟨this.1.elim .inr λh=> .inl (B b h),this.2⟩) G.nd λ_ x p=>aOm C x p _ _ _ (G.holds x p)
theorem set_same {x:α}{l:List α}(h:at' l j=some x):set' l j x=some l:=by
 obtain⟨p,A,B⟩:=zY h;unfold set';rw [if_pos ⟨p,A⟩];congr 1;apply List.ext_getElem?;intro i;rw [List.getElem?_set];split;rename_i e;subst e;rw [if_pos (by omega),B];rfl
theorem Hd.holeV (H:Hd O w0 w S l)(i:Nat){c:List Value}{f cap:Nat}(hi:l[i]? =some (.tr (Rt.row R e D) [v] bs xl))(h:v= .slice (some ⟨b,o,none⟩) xl.length cap)(p:at' xl j=some a)(A:j.toNat=f)(B:D.lookup f=some c):Cells w ⟨b,o+j.toNat*R.sz,none⟩ c:=by
 subst h A;obtain⟨_,_,-⟩:=zY p;exact H.hole i hi B (by omega)
theorem aLj {c vs:List Value}{f off cap p:Nat}{C:Value}(H:Hd O w0 w S l)(i:Nat)(hi:l[i]? =some (.tr (Rt.row R e ((f,c)::D)) [v] bs xl))(E:v= .slice (some ⟨b,o,none⟩) xl.length cap)(A:at' xl j=some a)(G:j.toNat=f)(I:ev ρ x= .pointer (some ⟨b,o+j.toNat*R.sz+off,none⟩))
    (J:Sz P t p)(hm:vs.length=p)(K:ev ρ y=C)(B:C.cells=vs.toArray)(L: ∀v∈vs,v.oneCell'=true)(h:off+p<=R.sz):
    ∃w',DoU P ⟨none,.store t x y,ty,pos,af,g⟩ ρ w w'/\Hd O w0 w' S (l.set i (.tr (Rt.row R e ((f,splice c off vs)::D)) [v] bs xl)):=by
 subst E G;obtain⟨_,_,-⟩:=zY A;exact aOc H i hi (by omega) I J hm K B L h
theorem wC (h:(Rt.row R e D).rd F w [v] bs xl)(A:at' xl j=some a): ∃b o cap,v= .slice (some ⟨b,o,none⟩) xl.length cap:=by
 obtain⟨_,_,-⟩:=zY A;obtain⟨v1,_,_,p,_,_,C⟩:=h;obtain rfl:v=v1:=by simpa using p
 obtain⟨b,o,cap,rfl,-⟩:=C.slr.some (by omega);exact⟨b,o,cap,rfl⟩
theorem Lx_bsT {len bytes:Nat}{zs:List Value}{bx:List Nat}{parts:Array (Nat×Operand)} (N:P.underlying t=some (.slice e)) (Q:El P e R.sz bytes zs) (B:len*R.sz<=16777216) (A:0<len*R.sz) (J:xl.length=len)
  (X:uN R.sz len zs (parts.toList.map λp=>(p.1,ev ρ p.2))=some cs) (H:Hd O w0 w S l) (idx:List Nat) (Y:idx.Nodup) (K:bx.Perm (bks (Go.Lf.pick idx l))) (L:mX R (frees O l) w [] 0 cs bx xl):
  ∃v w',Do P ⟨d,.buildSlice t len parts,ty,pos,af,g⟩ ρ w v w'/\ ∃b3,Hd O w0 w' S (rest idx l++[.tr (Rt.row R e []) [v] b3 xl]):=by
 obtain⟨v,w',h1,b,rfl,C⟩:=Ex_bs (P:=P) (ρ:=ρ) (w:=w) (d:=d) (ty:=ty) (pos:=pos) (af:=af) (g:=g) N Q B A X;have G: ∀c∈bx,c<w.heap.size:=λc I=>H.lt (xN (K.mem_iff.1 I))
 refine⟨_,w',h1,b::bx,H.turnN idx _ [] C.only (by simp) (λc I=>?_) ?_ (λhs x hx=>?_)⟩
 ·have I:c∈b::bx:=by simpa [bks,Th.blocks]using I
  rcases List.mem_cons.1 I with e|h
  ·subst e;exact⟨.inr (Nat.le_of_eq C.at_.symm),by rw [C.size,C.at_];omega⟩
  ·exact⟨.inl (K.mem_iff.1 h),Nat.lt_of_lt_of_le (G c h) (by rw [C.size];omega)⟩
 ·have:(b::bx).Nodup:=List.nodup_cons.2 ⟨λh=>by have:=G b h;rw [C.at_]at this;omega,K.nodup_iff.2 (H.pick_nd Y)⟩;simpa [bks,Th.blocks]using this
 ·obtain rfl:=mS.1 hx;have E:=aPt L;subst J;refine⟨_,cs,bx,rfl,rfl,vO hs (λc I=>C.only.block c (G c I) (by simp)) L,E,.inr ⟨b,0,xl.length,cs,rfl,C.blk,Nat.le_refl _,?_,by rw [E];omega,by rw [List.drop_zero,List.take_of_length_le (by omega)]⟩⟩;rw [maxLen_eq];have h0:R.sz≠0:=by intro h;rw [h]at A;simp at A
  have:xl.length<=xl.length*R.sz:=Nat.le_mul_of_pos_right _ (by omega);omega
theorem aEy {kl:IntKind}{lo:Int}{h:Operand}(H:Hd O w0 w S l)(i:Nat)(hi:l[i]? =some (.tr (Rt.row (Rt.of r) e []) [v] bs xl))(A:P.underlying t=some (.slice e))(B:Sz P e r.sz)(C:ev ρ x=v)(E:ev ρ h= .int kl lo)(G:sub' xl lo (xl.length:Int)=some yl):
    ∃p,(∀w',Do P ⟨d,.slice t x (some h) none none,ty,pos,af,g⟩ ρ w' p w')/\Hd O w0 w S (l.set i (.tr (Rt.row (Rt.of r) e []) [p] bs yl)):=by
 obtain⟨a,c,I,J,_,_,_,K⟩:=aOl H i hi G;refine⟨_,λw'=>aKm A B (C.trans I) E J (by omega),?_⟩;simpa using K
theorem aKv {kh:IntKind}{hh:Int}{h:Operand}(H:Hd O w0 w S l)(i:Nat)(hi:l[i]? =some (.tr (Rt.row (Rt.of r) e []) [v] bs xl))(A:P.underlying t=some (.slice e))(B:Sz P e r.sz)(C:ev ρ x=v)(E:ev ρ h= .int kh hh)(G:sub' xl 0 hh=some yl):
    ∃p,(∀w',Do P ⟨d,.slice t x none (some h) none,ty,pos,af,g⟩ ρ w' p w')/\Hd O w0 w S (l.set i (.tr (Rt.row (Rt.of r) e []) [p] bs yl)):=by
 obtain⟨a,c,I,_,J,_,_,K⟩:=aOl H i hi G;exact⟨_,λw'=>aLh A B (C.trans I) E J (by omega),by simpa using K⟩
def Rt.Fr {α:Type}(R:Rt α)(r:Rp α):Prop:=R.sz=r.sz/\ ∀F F' w cs bs x,(∀b,F b->F' b)->(∀b∈bs,F' b/\b<w.heap.size)->R.rd F w cs bs x->r.rd F' w cs x
theorem fr_of {r:Rp α}:(Rt.of r).Fr r:=⟨rfl,λ_ _ _ _ _ _ p _ h=>r.mono (λb A _=>⟨p b A,rfl⟩) h.2⟩
theorem aUo {r:Rp α}(p:R.Fr r){F F':Nat->Prop}(A: ∀b,F b->F' b): ∀{l:List α}{i:Nat}{cs:List Value}{bs:List Nat},(∀b∈bs,F' b/\b<w.heap.size)->mX R F w [] i cs bs l->rows r F' w cs l
 | [],_,_,_,_,h=>h.1
 |_::_,_,_,_,B,⟨c,d,E,I,e,C,G,H⟩=>⟨c,d,e,p.2 F F' w c E _ A (λb h=>B b (by rw [C];exact List.mem_append_left _ h)) G,aUo p A (λb h=>B b (by rw [C];exact List.mem_append_right _ h)) H⟩
theorem fr_row {r:Rp α}(p:R.Fr r):(Rt.row R e []).Fr (Rp.sl r):=⟨rfl,λF _ w cs bs x C A ⟨v,xs,_,E,B,G,H⟩=>
 ⟨v,E,xs,aUo p C (λb h=>A b (by rw [B];exact List.mem_append_right _ h)) G,by rw [<-p.1];exact H.slr,λ_ b I=>A b (by rw [B];exact List.mem_append_left _ (rP.2 I))⟩⟩
theorem Hd.freezeT {r:Rp α}(E:R.Fr r)(H:Hd O w0 w S l)(i:Nat)(hi:l[i]? =some (.tr (Rt.row R e []) [v] bs xl)):Hd O w0 w S (l.set i (.fz (.sl r v xl))):=by
 refine H.turn hi (Only.refl _ w) (λ_=>?_) (by simp [Th.blocks]) (by simp [Th.blocks]);have hm:=qS hi;obtain⟨u,G,h⟩:=(fr_row (e:=e) E).2 (frees O l) (frees O (l.set i (.fz (.sl r v xl)))) w [v] bs xl (λb A=>⟨A.1,λh=>by
   rcases aJs h with h|⟨j,x,C,B,p⟩
   ·simp [Th.blocks]at h
   ·exact A.2 (dS.2 ⟨x,qS B,p⟩)⟩) (λb A=>⟨⟨H.notO hm A,λh=>by
   rcases aJs h with h|⟨j,x,C,B,p⟩
   ·simp [Th.blocks]at h
   ·exact H.apart B hi C b p A⟩,(H.own _ hm b A).2⟩) (H.V hi)
 obtain rfl:v=u:=by simpa using G
 exact h
end hd
def nM (P:Program)(h:String)(p:Value)(f:FuncId)(r:Value):Prop:= ∀(w:World) (args:Array Value),(callMethod p h args).run P w= .ok (.enter f (#[r]++args)) w
theorem nM.eq {P:Program}{p:String}{A:Value}{f B:FuncId}{r C:Value}(h:nM P p A f r)(E:nM P p A B C)(w:World):f=B/\r=C:=by
 have q:=(h w #[]).symm.trans (E w #[]);simp at q;exact q
def methB (P:Program)(t:TypeId)(name:String)(f:FuncId)(p:Bool):Bool:=
 match P.info? t with
 |some i=>match i.methods.find? (λm=>m.name==name)with
  |some m=>m.path.isEmpty&&(match m.func with |some (g,q)=>g==f&&q==p|none=>false)
  |none=>false
 |none=>false
def ptrB (P:Program)(t:TypeId)(p:Bool):Bool:=
 match P.underlying t with
 |some (.pointer _)=>p
 |some (.interface _)=>false
 |some _=> !p
 |none=>false
theorem xG {P:Program}{t:TypeId}{name:String}{f:FuncId}{p:Bool}{v:Value}(h:methB P t name f p=true)(E:ptrB P t p=true)(K:Enters P f):nM P name (.iface t v) f v:=by
 intro w _;obtain⟨fn,L,_,N⟩:=K;have H: ¬fn.body=none:=by cases hb:fn.body<;>simp_all
 have I: ¬fn.name= "runtime.NumGoroutine" :=by simpa using N
 have Q: ∀as:Array Value,(callFunc f as).run P w= .ok (.enter f as) w:=by
  intro as;simp [callFunc,Sem.run,L,H,I,program]
 unfold methB at h
 cases hi:P.info? t with
 |none=>rw [hi]at h;cases h
 |some i=>
  rw [hi]at h
  cases hm:i.methods.find? (λm=>m.name==name)with
  |none=>simp only [hm]at h;cases h
  |some m=>
   simp only [hm]at h;obtain⟨B,G⟩:=(Bool.and_eq_true _ _▸h:m.path.isEmpty=true/\_);have A:m.path= #[]:=by simpa using B
   cases hmf:m.func with
   |none=>simp only [hmf]at G;cases G
   |some X=>
    obtain⟨g,q⟩:=X;simp only [hmf,Bool.and_eq_true,beq_iff_eq]at G;obtain⟨rfl,rfl⟩:=G;obtain⟨n,Y⟩: ∃n,P.types.size+Made.depth=n+1:=⟨P.types.size+(Made.depth-1),by unfold Made.depth;omega⟩;have J:(receiverAt t (.val v) q (if m.path.isEmpty then some ((name.splitOn ".").getLastD name)else none)).run P w= .ok v w:=by
     unfold ptrB at E
     cases hu:P.underlying t with
     |none=>rw [hu]at E;cases E
     |some d=>
      rw [hu]at E
      cases d<;>simp_all [receiverAt,run_underlying hu,Place.get]
    have C:(method (n+1) t v name).run P w= .ok (g,v) w:=by
     simp only [method,typeInfo,Sem.run_bind];simp [hi,hm,A,follow,hmf];simp [A]at J;simp [J]
    unfold callMethod;simp [Y,C,Q]
section ops
variable {P:Program}{ρ:Env}{w w0 w1 w':World}{d:Option Tmp}{x y z:Operand}{t u ty e:TypeId}{pos:String}{af:Array Edge}{g:Option (Nat×Bool)}
variable {v:Value}{b o i n c s m:Nat}{k k':IntKind}{cs xs vs:List Value}{bs:List Nat}{T:TypeId}{O O' S M:List Nat}{l l2:List Th}{α β:Type}{r:Rp α}{R:Rt α}{D:Hol}{xl yl zl:List α}{a:α}{j q:Int}{F:Nat->Prop}
theorem kZ {f:FuncId}{A h:Value}{p:String}{B:Operand}{args:Array Operand}{at_:Array TypeId}(hm:nM P p h f A)(G:ev ρ B=h)(H:args.toList.map (ev ρ)=vs):
    DoC P ⟨d,.call {callee:= .invoke B p,args:=args,argTypes:=at_},ty,pos,af,g⟩ ρ w f (A::vs).toArray:=by
 have C:=hm w (args.map (ev ρ));have E:args.map (ev ρ)=vs.toArray:=by rw [<-H];apply Array.ext';simp
 unfold DoC;have I:(#[A]++vs.toArray:Array Value)=(A::vs).toArray:=by simp
 rw [E,I]at C;simp [execOp,resolve,invoke,G,E,C]
def mkiB (P:Program)(t:TypeId):Bool:=match P.underlying t with |some (.interface _)=>false|some _=>true|none=>false
theorem aY (h:mkiB P t=true)(A:ev ρ x=v):Do P ⟨d,.makeInterface t x,ty,pos,af,g⟩ ρ w (.iface t v) w:=by
 unfold mkiB at h
 cases hu:P.underlying t with
 |none=>rw [hu]at h;cases h
 |some p=>
  rw [hu]at h;unfold Do
  cases p<;>simp_all [execOp,Instr.makeInterface,run_underlying hu]
theorem row_n {n c:Nat}{a:Option Addr}(h:(Rt.row R e D).rd F w [.slice a n c] bs xl):n=xl.length:=by
 obtain⟨_,_,p⟩:=jS h;cases p;rfl
theorem Hd.fV {cap:Nat}(H:Hd O w0 w S l)(i:Nat)(hi:l[i]? =some (.tr (Rt.row R e D) [v] bs xl))(_:v= .slice (some ⟨b,o,none⟩) n cap)(B:at' xl j=some a)(C:D.lookup j.toNat=none):
  ∃c h p,Hd O w0 w S (rest [i] l++[.tr (Rt.row R e ((j.toNat,c)::D)) [v] h xl,.tr R c p a]):=by
 obtain⟨_,_,_,c,h,p,_,_,E⟩:=H.focus i hi B C;exact⟨c,h,p,E⟩
theorem Hd.holeW {c:List Value}{f cap:Nat}(H:Hd O w0 w S l)(i:Nat)(hi:l[i]? =some (.tr (Rt.row R e D) [v] bs xl))(h:v= .slice (some ⟨b,o,none⟩) n cap)(p:at' xl j=some a)(A:j.toNat=f)(B:D.lookup f=some c):Cells w ⟨b,o+j.toNat*R.sz,none⟩ c:=by
 subst h;obtain rfl:=row_n (H.V hi);exact H.holeV i hi rfl p A B
theorem yQ {c vs:List Value}{f off cap p:Nat}{C:Value}(H:Hd O w0 w S l)(i:Nat)(hi:l[i]? =some (.tr (Rt.row R e ((f,c)::D)) [v] bs xl))(E:v= .slice (some ⟨b,o,none⟩) n cap)(A:at' xl j=some a)(G:j.toNat=f)(I:ev ρ x= .pointer (some ⟨b,o+j.toNat*R.sz+off,none⟩))
    (J:Sz P t p)(hm:vs.length=p)(K:ev ρ y=C)(B:C.cells=vs.toArray)(L: ∀v∈vs,v.oneCell'=true)(h:off+p<=R.sz):
    ∃w',DoU P ⟨none,.store t x y,ty,pos,af,g⟩ ρ w w'/\Hd O w0 w' S (l.set i (.tr (Rt.row R e ((f,splice c off vs)::D)) [v] bs xl)):=by
 subst E;obtain rfl:=row_n (H.V hi);exact aLj H i hi rfl A G I J hm K B L h
theorem Hd.addF (H:Hd O w0 w S l)(h:r.rd (frees O l) w cs a):Hd O w0 w S (l++[.tr (Rt.of r) cs [] a]):=
 H.add (Only.refl [] w) (λp=>⟨rfl,r.mono p h⟩) (by simp [Th.blocks]) (by simp [Th.blocks])
theorem trF {F:Nat->Prop}(h:(Th.tr (Rt.of r) cs bs a).holds F w):bs=[]/\r.rd F w cs a:=h
theorem xZ {F:Nat->Prop}(h:(Th.tr R [v] bs a).holds F w):v.oneCell'=true:=R.one h v (by simp)
theorem nY {F:Nat->Prop}(p:R.sz=1)(h:(Th.tr R cs bs a).holds F w): ∃v,cs=[v]:=by
 have:=R.len h;rw [p]at this
 match cs,this with
 | [v],_=>exact⟨v,rfl⟩
theorem Hd.u0 {c:List Value}{p A:List Nat}{f:Nat}(H:Hd O w0 w S l)(i k:Nat)(hi:l[i]? =some (.tr (Rt.row R e ((f,c)::D)) [v] p xl))(B:l[k]? =some (.tr R c A a))(h:i≠k)(C:j.toNat=f)(E:D.lookup f=none)(G:at' xl j=some a):
  ∃I,Hd O w0 w S (rest [i,k] l++[.tr (Rt.row R e D) [v] I xl]):=
 H.uf i k hi B h C E (set_same G)
theorem aBi {bytes:Nat}{zs:List Value}{parts:Array (Nat×Operand)}(H:Hd O w0 w S l)(i:Nat)(hi:l[i]? =some (.tr R cs bs a))(B:P.underlying t=some (.slice e))(C:El P e R.sz bytes zs)(h:1*R.sz<=16777216)(A:0<1*R.sz)
  (E:uN R.sz 1 zs (parts.toList.map λp=>(p.1,ev ρ p.2))=some cs):
  ∃v w',Do P ⟨d,.buildSlice t 1 parts,ty,pos,af,g⟩ ρ w v w'/\ ∃G,Hd O w0 w' S (rest [i] l++[.tr (Rt.row R e []) [v] G [a]]):=
 Lx_bsT (xl:=[a]) (bx:=bs) B C h A rfl E H [i] (by simp) (by simp [Go.Lf.pick,hi,bks,Th.blocks]) ⟨cs,[],bs,[],(List.append_nil _).symm,(List.append_nil _).symm,H.V hi,rfl,rfl⟩
theorem aXx {pre cs vs:List Value}{k i:Nat}(h:pre.length=k):splice (pre++cs) (0+k+i) vs=pre++splice cs i vs:=by
 subst h;unfold splice;rw [Nat.zero_add,List.take_append,List.take_of_length_le (by omega),show pre.length+i-pre.length=i by omega,List.drop_append,List.drop_eq_nil_of_le (by omega),List.nil_append,show pre.length+i+vs.length-pre.length=i+vs.length by omega];simp
theorem aOp {e:Fl α}{n:Nat}{X Y:Arr n α}{pre:List Value}{k:Nat}(H:Hd O w0 w S l)(m:Nat)(hi:l[m]? =some (.blk b (pre++(Fl.arr n e).f X) T))(B:Sz P t e.sz)(p:pre.length=k)(C:ev ρ x= .pointer (some ⟨b,0+k+j.toNat*e.sz,none⟩))(E:ev ρ y=v)(G:v.cells=(e.f a).toArray)(I:0<=j)(J:j<n)(K:Arr.set X j a=Y):
  ∃w',DoU P ⟨none,.store t x y,ty,pos,af,g⟩ ρ w w'/\Hd O w0 w' S (l.set m (.blk b (pre++(Fl.arr n e).f Y) T)):=by
 subst K;have h:0+k+j.toNat*e.sz+(e.f a).length<=(pre++(Fl.arr n e).f X).length:=by
  rw [List.length_append,(Fl.arr n e).len,e.len,p,Nat.zero_add,Nat.add_assoc,<-Nat.succ_mul];exact Nat.add_le_add_left (Nat.mul_le_mul_right _ (by omega)) _
 obtain⟨w',L,A⟩:=sN (P:=P) (ρ:=ρ) (ty:=ty) (pos:=pos) (af:=af) (g:=g) B (e.len a) C (by rw [E,G]) (e.one a) (H.V hi) h;rw [aXx p,Arr.f_set I J]at A;exact⟨w',L,H.wr hi A⟩
theorem Cells.suf {pre:List Value}{k:Nat}(h:Cells w ⟨b,o,none⟩ (pre++cs))(p:pre.length=k):Cells w ⟨b,o+k,none⟩ cs:=by
 subst p;have q:=Cells.drop h pre.length cs.length;rwa [List.drop_left',List.take_of_length_le (Nat.le_refl _)]at q;rfl
theorem aZp {bytes s:Nat}{zv:Value}{j:Int}{a:α}{xl:List α}(A:P.underlying t=some (.slice e))(B:El P e s bytes [zv])(h:s=1)(C:ev ρ x= .int .i64 j)(E:ev ρ y= .int .i64 j)(hm:make' bytes j a=some xl):
    ∃v w',Do P ⟨d,.makeSlice t x y,ty,pos,af,g⟩ ρ w v w'/\fO w w':=by
 obtain⟨G,_,_,rfl⟩:=aOx hm;have p:(j.toNat:Int)=j:=Int.toNat_of_nonneg G;obtain⟨v,w',H,b,rfl,I⟩:=Ex_ms (P:=P) (ρ:=ρ) (w:=w) (d:=d) (ty:=ty) (pos:=pos) (af:=af) (g:=g) (n:=j.toNat) (cs:=List.replicate j.toNat zv) A B (by rw [p];exact C) (by rw [p];exact E) (by omega) (by omega) (by rw [h];exact aOt);exact⟨_,w',H,I.only.below⟩
theorem aPd: ∀{l:List Value},(∀v∈l,v.oneCell'=true)->wW l
 | [],_=>trivial
 |v::l,h=>⟨h v (by simp),aPd λu p=>h u (by simp [p])⟩
theorem aNg: ∀{l m:List Value},wW l->wW m->wW (l++m)
 | [],_,_,h=>h
 |_::_,_,h,k=>⟨h.1,aNg h.2 k⟩
theorem Lx_storeT {m:Nat}(H:Hd O w0 w S l)(n:Nat)(hi:l[n]? =some (.blk b cs T))(p:Sz P t m)(G:cs.length=m)(hm:vs.length=m)(A:ev ρ x= .pointer (some ⟨b,0,none⟩))(B:ev ρ y= .agg vs.toArray)(C:wW vs):
    ∃w',DoU P ⟨none,.store t x y,ty,pos,af,g⟩ ρ w w'/\Hd O w0 w' S (l.set n (.blk b vs T)):=by
 obtain⟨w',E,h⟩:=aMf (P:=P) (ρ:=ρ) (ty:=ty) (pos:=pos) (af:=af) (g:=g) p hm A B (yT C) (H.V hi) (by omega);rw [aNc (by omega)]at h;exact⟨w',E,H.wr hi h⟩
def Rt.opt (R:Rt α)(T:TypeId):Rt (Option α):=
  ⟨1,λF w cs bs x=>(x=none/\cs=[.pointer none]/\bs=[])\/ ∃a b c p,x=some a/\cs=[.pointer (some ⟨b,0,none⟩)]/\bs=p++[b]/\Blk w b c T/\R.rd F w c p a,
   λh=>by rcases h with ⟨_,e,_⟩|⟨_,_,_,_,_,e,_⟩<;>subst e<;>rfl,
   λh=>by rcases h with ⟨_,e,_⟩|⟨_,_,_,_,_,e,_⟩<;>subst e<;>intro v C<;>obtain rfl:=mS.1 C<;>rfl,
   λE B h=>h.imp id λ⟨a,b,c,p,G,H,A,I,J⟩=>⟨a,b,c,p,G,H,A,nG I (B b (by rw [A];simp)),R.mono E (λk K=>B k (by rw [A];exact List.mem_append_left _ K)) J⟩⟩
theorem Hd.opt_some {x:Option α} (H:Hd O w0 w S l) (i:Nat) (hi:l[i]? =some (.tr (Rt.opt R T) [v] bs x)) (h:x=some a):Hd O w0 w S (l.set i (.tr (Rt.opt R T) [v] bs (some a))):=by
 subst h;have e:l.set i (.tr (Rt.opt R T) [v] bs (some a))=l:=by
  apply List.ext_getElem?;intro k;rw [List.getElem?_set];split
  ·rename_i q;subst q;obtain⟨p,_⟩:=gS.1 hi;rw [if_pos p,hi]
  ·rfl
 rw [e];exact H
theorem Hd.opt_open (H:Hd O w0 w S l) (i:Nat) (hi:l[i]? =some (.tr (Rt.opt R T) [v] bs (some a))): ∃b c p,v= .pointer (some ⟨b,0,none⟩)/\Hd O w0 w S (rest [i] l++[.tr R c p a,.blk b c T]):=by
 rcases H.V hi with ⟨h,_⟩|⟨_,b,c,p,B,C,E,G,I⟩
 ·cases h
 ·cases B
  refine⟨b,c,p,by simpa using C,H.split i hi _ (by subst E;simp [bks,Th.blocks]) λx A=>?_⟩;simp only [List.mem_cons,List.not_mem_nil,or_false]at A;rcases A with rfl|rfl
  ·exact I
  ·exact G
theorem Hd.opt_mk (H:Hd O w0 w S l)(i k:Nat)(hi:l[i]? =some (.tr R cs bs a))(p:l[k]? =some (.blk b cs T))(h:i≠k): ∃A,Hd O w0 w S (rest [i,k] l++[.tr (Rt.opt R T) [.pointer (some ⟨b,0,none⟩)] A (some a)]):=
 ⟨bs++[b],H.unite [i,k] (by simpa using h) _ (by simp [Go.Lf.pick,hi,p,bks,Th.blocks]) (.inr ⟨a,b,cs,bs,rfl,rfl,rfl,H.V p,H.V hi⟩)⟩
theorem Hd.opt_none (H:Hd O w0 w S l)(R:Rt α)(T:TypeId):Hd O w0 w S (l++[.tr (Rt.opt R T) [.pointer none] [] none]):=
 H.add (Only.refl [] w) (λ_=> .inl ⟨rfl,rfl,rfl⟩) (by simp [Th.blocks]) (by simp [Th.blocks])
end ops
theorem aJ {F:Nat->Prop}{w:World}{α:Type}{R:Rt α}{e:TypeId}{D:Hol}{v:Value}{bs:List Nat}{xl:List α}{b o n cap:Nat}(h:(Rt.row R e D).rd F w [v] bs xl)(p:v= .slice (some ⟨b,o,none⟩) n cap):v= .slice (some ⟨b,o,none⟩) xl.length cap:=by
 obtain⟨a,c,q⟩:=jS h;rw [q]at p
 injection p with h1 h2 h3
 rw [q,h1,h3]
section
variable {w w0 w1:World}{O O1 S S1:List Nat}{l l1:List Th}{α:Type}{R:Rt α}{D:Hol}{e:TypeId}{v:Value}{bs cs:List Nat}{xl:List α}{b o n cap f:Nat}{c:List Value}{j:Int}{a:α}{T:TypeId}
theorem aWy {c:List Value}(h:List Nat)(k:Nat)(p:(rest h l)[k]? =some (.blk b c T)):b∈O++bks (rest h l):=
 List.mem_append_right _ (dS.2 ⟨_,qS p,by simp [Th.blocks]⟩)
theorem Hd.firmH (H:Hd O w w S l)(_H1:Hd O1 w w S1 l1)(B:List Nat)(k:Nat)(C:(rest B l)[k]? =some (.tr (Rt.row R e D) [v] bs xl))(E:v= .slice (some ⟨b,o,none⟩) n cap)(h:at' xl j=some a)(G:j.toNat=f)(I:D.lookup f=some c)(J:O1=O++bks (rest B l):=by rfl):
  ∀w',Only S1 w w'->Cells w' ⟨b,o+j.toNat*R.sz,none⟩ c:=by
 obtain⟨i,_,hi⟩:=nR.1 (qS C);intro w' K;have L:=H.holeW i hi E h G I;have N:b∈bs:=by
  obtain⟨Q,xs,_,p,A,-,_⟩:=H.V hi;obtain rfl:v=Q:=by simpa using p
  subst E;rw [A];exact List.mem_append_left _ (by simp [ob,jC])
 have hm:b∈O1:=by rw [J];exact List.mem_append_right _ (dS.2 ⟨_,qS C,N⟩)
 have q:=_H1.fo b hm;exact(Cells.same (F:=λx=>x=b) (F':=λx=>x=b) (λx h _=>⟨h,by rw [h];exact K.block b q.1 q.2⟩) rfl q.1 L).2.2
end
end Go.Lf
namespace Go.MxM
open Go.OB Go.RowKit
end Go.MxM
namespace Go.Lf
open Go.RowKit Go.OB
section
variable {P:Program}{ρ:Env}{w:World}{d:Option Tmp}{x:Operand}{t a e xt ty:TypeId}{pos:String}{af:Array Edge}{g:Option (Nat×Bool)}{v z:Value}
theorem Do_taT (h:P.underlying a=some (.pointer e))(p:ev ρ x= .iface a v):Do P ⟨d,.typeAssert x xt a true,ty,pos,af,g⟩ ρ w (.tuple #[v,.bool true]) w:=by
 unfold Do;simp [execOp,p,Instr.typeAssert,run_underlying h]
theorem run_zero1 (h:(P.info? a).bind (·.zero)=some z):(zeroValue a).run P w= .ok z w:=by
 cases hi:P.info? a with
 |none=>rw [hi]at h;cases h
 |some i=>
  rw [hi]at h;have h:i.zero=some z:=h;simp [zeroValue,typeInfo,hi,h]
theorem Do_taF (p:P.underlying a=some (.pointer e))(A:ev ρ x= .iface t v)(h:(t==a)=false)(B:(P.info? a).bind (·.zero)=some z):Do P ⟨d,.typeAssert x xt a true,ty,pos,af,g⟩ ρ w (.tuple #[z,.bool false]) w:=by
 have h: ¬t=a:=by simpa using h
 unfold Do;simp [execOp,A,Instr.typeAssert,run_underlying p,h,run_zero1 B]
end
theorem opt_nil {α:Type}{R:Rt α}{T:TypeId}{F:Nat->Prop}{w:World}{v:Value}{bs:List Nat}{x:Option α}(h:(Th.tr (Rt.opt R T) [v] bs x).holds F w): ∃pv:Option Addr,v= .pointer pv/\pv.isNone=x.isNone:=by
 obtain⟨rfl,e,_⟩|⟨a,b,c,_,rfl,e,_⟩:=h;exact⟨none,by simpa using e,rfl⟩;exact⟨some ⟨b,0,none⟩,by simpa using e,rfl⟩
theorem Hd.eqL {w w0:World}{O S:List Nat}{l l2:List Th}(H:Hd O w0 w S l)(h:l=l2):Hd O w0 w S l2:=h▸H
end Go.Lf
