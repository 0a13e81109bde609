/- Laws that the claim stands on; no condition beyond those stated. -/
import Derived.Test.YtibkjjklfhfipacGreatDoorLfS
namespace Go.Lf
open Go.RowKit Go.OB
section ff
variable {α β:Type}
end ff
section hd
variable {P:Program}{ρ:Env}{w w0 w1 w':World}{d:Option Tmp}{x y z:Operand}{t u ty e:TypeId}{pos:String}{af:Array Edge}{g:Option (Nat×Bool)}
variable {v:Value}{b o i n c s m:Nat}{k k':IntKind}{cs xs vs:List Value}{bs:List Nat}{T:TypeId}{O O' S M:List Nat}{l l2:List Th}{α β:Type}{r:Rp α}{R:Rt α}{D:Hol}{xl yl zl:List α}{a:α}{j q:Int}{F:Nat->Prop}
theorem set_same {x:α}{l:List α}(h:at' l j=some x):set' l j x=some l:=by
 obtain⟨p,A,B⟩:=zU h;unfold set';rw [if_pos ⟨p,A⟩];congr 1;apply List.ext_getElem?;intro i;rw [List.getElem?_set];split;rename_i e;subst e;rw [if_pos (by omega),B];rfl
theorem Hd.holeV (H:Hd O w0 w S l)(i:Nat){c:List Value}{f cap:Nat}(hi:l[i]? =some (.tr (Rt.row R e D) [v] bs xl))(h:v= .slice (some ⟨b,o,none⟩) xl.length cap)(p:at' xl j=some a)(A:j.toNat=f)(B:D.lookup f=some c):Cells w ⟨b,o+j.toNat*R.sz,none⟩ c:=by
 subst h A;obtain⟨_,_,-⟩:=zU p;exact H.hole i hi B (by omega)
theorem aPf {c vs:List Value}{f off cap p:Nat}{C:Value}(H:Hd O w0 w S l)(i:Nat)(hi:l[i]? =some (.tr (Rt.row R e ((f,c)::D)) [v] bs xl))(E:v= .slice (some ⟨b,o,none⟩) xl.length cap)(A:at' xl j=some a)(I:j.toNat=f)(J:ev ρ x= .pointer (some ⟨b,o+j.toNat*R.sz+off,none⟩))
    (L:Sz P t p)(hm:vs.length=p)(N:ev ρ y=C)(B:C.cells=vs.toArray)(Q: ∀v∈vs,v.oneCell'=true)(h:off+p<=R.sz):
    ∃w',DoU P ⟨none,.store t x y,ty,pos,af,g⟩ ρ w w'/\Hd O w0 w' S (l.set i (.tr (Rt.row R e ((f,splice c off vs)::D)) [v] bs xl)):=by
 subst E I;obtain⟨_,_,-⟩:=zU A;exact aRx H i hi (by omega) J L hm N B Q h
theorem xP (h:(Rt.row R e D).rd F w [v] bs xl)(A:at' xl j=some a): ∃b o cap,v= .slice (some ⟨b,o,none⟩) xl.length cap:=by
 obtain⟨_,_,-⟩:=zU A;obtain⟨v1,_,_,p,_,_,C⟩:=h;obtain rfl:v=v1:=by simpa using p
 obtain⟨b,o,cap,rfl,-⟩:=C.slr.some (by omega);exact⟨b,o,cap,rfl⟩
theorem Lx_bsT {len bytes:Nat}{zs:List Value}{bx:List Nat}{parts:Array (Nat×Operand)} (Q:P.underlying t=some (.slice e)) (X:El P e R.sz bytes zs) (B:len*R.sz<=16777216) (A:0<len*R.sz) (L:xl.length=len)
  (Y:vH R.sz len zs (parts.toList.map λp=>(p.1,ev ρ p.2))=some cs) (H:Hd O w0 w S l) (idx:List Nat) (hn:idx.Nodup) (hb:bx.Perm (bks (Go.Lf.pick idx l))) (N:jY R (frees O l) w [] 0 cs bx xl):
  ∃v w',Do P ⟨d,.buildSlice t len parts,ty,pos,af,g⟩ ρ w v w'/\ ∃b3,Hd O w0 w' S (rest idx l++[.tr (Rt.row R e []) [v] b3 xl]):=by
 obtain⟨v,w',h1,b,rfl,C⟩:=Ex_bs (P:=P) (ρ:=ρ) (w:=w) (d:=d) (ty:=ty) (pos:=pos) (af:=af) (g:=g) Q X B A Y;have I: ∀c∈bx,c<w.heap.size:=λc J=>H.lt (xU (hb.mem_iff.1 J))
 refine⟨_,w',h1,b::bx,H.turnN idx _ [] C.only (by simp) (λc J=>?_) ?_ (λhs x hx=>?_)⟩
 ·have J:c∈b::bx:=by simpa [bks,Th.blocks]using J
  rcases List.mem_cons.1 J with e|h
  ·subst e;exact⟨.inr (Nat.le_of_eq C.at_.symm),by rw [C.size,C.at_];omega⟩
  ·exact⟨.inl (hb.mem_iff.1 h),Nat.lt_of_lt_of_le (I c h) (by rw [C.size];omega)⟩
 ·have:(b::bx).Nodup:=List.nodup_cons.2 ⟨λh=>by have:=I b h;rw [C.at_]at this;omega,hb.nodup_iff.2 (H.pick_nd hn)⟩;simpa [bks,Th.blocks]using this
 ·obtain rfl:=mS.1 hx;have E:=aUo N;subst L;refine⟨_,cs,bx,rfl,rfl,aAd hs (λc J=>C.only.block c (I c J) (by simp)) N,E,.inr ⟨b,0,xl.length,cs,rfl,C.blk,Nat.le_refl _,?_,by rw [E];omega,by rw [List.drop_zero,List.take_of_length_le (by omega)]⟩⟩;rw [maxLen_eq];have h0:R.sz≠0:=by intro h;rw [h]at A;simp at A
  have:xl.length<=xl.length*R.sz:=Nat.le_mul_of_pos_right _ (by omega);omega
theorem aOm {z:Value}{x:α}(h: ∀F w,R.rd F w [z] [] x)(F:Nat->Prop)(w:World): ∀n i,jY R F w [] i (List.replicate n z) [] (List.replicate n x)
 |0,_=>⟨rfl,rfl⟩
 |n+1,i=>⟨[z],List.replicate n z,[],[],rfl,rfl,h F w,aOm h F w n (i+1)⟩
theorem Lx_makeT {bytes:Nat}{zv:Value} (C:P.underlying t=some (.slice e)) (E:El P e R.sz bytes [zv]) (h:R.sz=1) (I: ∀F w,R.rd F w [zv] [] a) (J:ev ρ x= .int .i64 j) (L:ev ρ y= .int .i64 j) (hm:make' bytes j a=some xl) (H:Hd O w0 w S l):
    ∃v w',Do P ⟨d,.makeSlice t x y,ty,pos,af,g⟩ ρ w v w'/\ ∃N,Hd O w0 w' S (l++[.tr (Rt.row R e []) [v] N xl]):=by
 obtain⟨Q,_,_,rfl⟩:=aGa hm;have B:(j.toNat:Int)=j:=Int.toNat_of_nonneg Q;obtain⟨v,w',X,b,rfl,p⟩:=bFm (P:=P) (ρ:=ρ) (w:=w) (d:=d) (ty:=ty) (pos:=pos) (af:=af) (g:=g) (n:=j.toNat) (cs:=List.replicate j.toNat zv) C E (by rw [B];exact J) (by rw [B];exact L) (by omega) (by omega) (by rw [h];exact aGd);refine⟨_,w',X,[b],H.add p.only (λ_=>?_) (λY A=>?_) (by simp [Th.blocks])⟩;refine⟨_,List.replicate j.toNat zv,[],rfl,by simp [ob,kM],aOm I _ _ _ _,by simp [h],.inr ⟨b,0,j.toNat,List.replicate j.toNat zv,by simp,p.blk,by simp,(by rw [maxLen_eq];omega),by simp [h],?_⟩⟩;rw [List.drop_zero,List.take_of_length_le];simp [h];have:Y=b:=by simpa [Th.blocks]using A
 subst this;exact⟨Nat.le_of_eq p.at_.symm,by rw [p.size,p.at_];omega⟩
theorem aHs {kl:IntKind}{lo:Int}{h:Operand}(H:Hd O w0 w S l)(i:Nat)(hi:l[i]? =some (.tr (Rt.row (Rt.of r) e []) [v] bs xl))(A:P.underlying t=some (.slice e))(B:Sz P e r.sz)(C:ev ρ x=v)(E:ev ρ h= .int kl lo)(I:sub' xl lo (xl.length:Int)=some yl):
    ∃p,(∀w',Do P ⟨d,.slice t x (some h) none none,ty,pos,af,g⟩ ρ w' p w')/\Hd O w0 w S (l.set i (.tr (Rt.row (Rt.of r) e []) [p] bs yl)):=by
 obtain⟨a,c,J,L,_,_,_,N⟩:=aTs H i hi I;refine⟨_,λw'=>aRc A B (C.trans J) E L (by omega),?_⟩;simpa using N
theorem aQf {A:IntKind}{hh:Int}{h:Operand}(H:Hd O w0 w S l)(i:Nat)(hi:l[i]? =some (.tr (Rt.row (Rt.of r) e []) [v] bs xl))(B:P.underlying t=some (.slice e))(C:Sz P e r.sz)(E:ev ρ x=v)(I:ev ρ h= .int A hh)(J:sub' xl 0 hh=some yl):
    ∃p,(∀w',Do P ⟨d,.slice t x none (some h) none,ty,pos,af,g⟩ ρ w' p w')/\Hd O w0 w S (l.set i (.tr (Rt.row (Rt.of r) e []) [p] bs yl)):=by
 obtain⟨a,c,L,_,N,_,_,Q⟩:=aTs H i hi J;exact⟨_,λw'=>aOq B C (E.trans L) I N (by omega),by simpa using Q⟩
def Rt.Fr {α:Type}(R:Rt α)(r:Rp α):Prop:=R.sz=r.sz/\ ∀F F' w cs bs x,(∀b,F b->F' b)->(∀b∈bs,F' b/\b<w.heap.size)->R.rd F w cs bs x->r.rd F' w cs x
theorem bAa {r:Rp α}:(Rt.of r).Fr r:=⟨rfl,λ_ _ _ _ _ _ p _ h=>r.mono (λb hb _=>⟨p b hb,rfl⟩) h.2⟩
theorem aUu {a:Rt α}{b:Rt β}{a':Rp α}{h:Rp β}(p:a.Fr a')(hb:b.Fr h):(Rt.pair a b).Fr (Rp.pair a' h):=
 ⟨by show a.sz+b.sz=a'.sz+h.sz;rw [p.1,hb.1],λF F' w cs bs x A B ⟨c,d,E,H,e,C,I,J⟩=>⟨c,d,e,p.2 F F' w c E _ A (λb hb=>B b (by rw [C];exact List.mem_append_left _ hb)) I,hb.2 F F' w d H _ A (λb hb=>B b (by rw [C];exact List.mem_append_right _ hb)) J⟩⟩
theorem fr_iso {a:Rt α}{a':Rp α}{f:β->α}(p:a.Fr a'):(Rt.iso a f).Fr (Rp.iso a' f):=⟨p.1,λF F' w cs bs _ A B h=>p.2 F F' w cs bs _ A B h⟩
theorem bAg {r:Rp α}(p:R.Fr r){F F':Nat->Prop}(A: ∀b,F b->F' b): ∀{l:List α}{i:Nat}{cs:List Value}{bs:List Nat},(∀b∈bs,F' b/\b<w.heap.size)->jY R F w [] i cs bs l->rows r F' w cs l
 | [],_,_,_,_,h=>h.1
 |_::_,_,_,_,hb,⟨c,d,C,I,e,B,E,H⟩=>⟨c,d,e,p.2 F F' w c C _ A (λb h=>hb b (by rw [B];exact List.mem_append_left _ h)) E,bAg p A (λb h=>hb b (by rw [B];exact List.mem_append_right _ h)) H⟩
theorem bDi {r:Rp α}(p:R.Fr r):(Rt.row R e []).Fr (Rp.sl r):=⟨rfl,λF _ w cs bs x C A ⟨v,xs,_,E,B,H,I⟩=>
 ⟨v,E,xs,bAg p C (λb h=>A b (by rw [B];exact List.mem_append_right _ h)) H,by rw [<-p.1];exact I.slr,λ_ b hb=>A b (by rw [B];exact List.mem_append_left _ (jJ.2 hb))⟩⟩
theorem Hd.freezeT {r:Rp α}(C:R.Fr r)(H:Hd O w0 w S l)(i:Nat)(hi:l[i]? =some (.tr (Rt.row R e []) [v] bs xl)):Hd O w0 w S (l.set i (.fz (.sl r v xl))):=by
 refine H.turn hi (Only.refl _ w) (λ_=>?_) (by simp [Th.blocks]) (by simp [Th.blocks]);have hm:=qS hi;obtain⟨u,E,h⟩:=(bDi (e:=e) C).2 (frees O l) (frees O (l.set i (.fz (.sl r v xl)))) w [v] bs xl (λb hb=>⟨hb.1,λh=>by
   rcases aGg h with h|⟨j,x,B,A,p⟩
   ·simp [Th.blocks]at h
   ·exact hb.2 (dK.2 ⟨x,qS A,p⟩)⟩) (λb hb=>⟨⟨H.notO hm hb,λh=>by
   rcases aGg h with h|⟨j,x,B,A,p⟩
   ·simp [Th.blocks]at h
   ·exact H.apart A hi B b p hb⟩,(H.own _ hm b hb).2⟩) (H.V hi)
 obtain rfl:v=u:=by simpa using E
 exact h
end hd
def uO (P:Program)(p:String)(A:Value)(f:FuncId)(r:Value):Prop:= ∀(w:World) (h:Array Value),(callMethod A p h).run P w= .ok (.enter f (#[r]++h)) w
theorem uO.eq {P:Program}{p:String}{A:Value}{f B:FuncId}{r C:Value}(h:uO P p A f r)(E:uO P p A B C)(w:World):f=B/\r=C:=by
 have q:=(h w #[]).symm.trans (E w #[]);simp at q;exact q
def methB (P:Program)(t:TypeId)(name:String)(f:FuncId)(p:Bool):Bool:=
 match P.info? t with
 |some i=>match i.methods.find? (λm=>m.name==name)with
  |some m=>m.path.isEmpty&&(match m.func with |some (g,q)=>g==f&&q==p|none=>false)
  |none=>false
 |none=>false
def ptrB (P:Program)(t:TypeId)(p:Bool):Bool:=
 match P.underlying t with
 |some (.pointer _)=>p
 |some (.interface _)=>false
 |some _=> !p
 |none=>false
theorem bW {P:Program}{t:TypeId}{name:String}{f:FuncId}{p:Bool}{v:Value}(h:methB P t name f p=true)(E:ptrB P t p=true)(X:Enters P f):uO P name (.iface t v) f v:=by
 intro w _;obtain⟨I,Y,_,h3⟩:=X;have J: ¬I.body=none:=by cases hb:I.body<;>simp_all
 have L: ¬I.name= "runtime.NumGoroutine" :=by simpa using h3
 have hc: ∀as:Array Value,(callFunc f as).run P w= .ok (.enter f as) w:=by
  intro as;simp [callFunc,Sem.run,Y,J,L,program]
 unfold methB at h
 cases hi:P.info? t with
 |none=>rw [hi]at h;cases h
 |some i=>
  rw [hi]at h
  cases hm:i.methods.find? (λm=>m.name==name)with
  |none=>simp only [hm]at h;cases h
  |some m=>
   simp only [hm]at h;obtain⟨B,H⟩:=(Bool.and_eq_true _ _▸h:m.path.isEmpty=true/\_);have A:m.path= #[]:=by simpa using B
   cases hmf:m.func with
   |none=>simp only [hmf]at H;cases H
   |some gq=>
    obtain⟨g,q⟩:=gq;simp only [hmf,Bool.and_eq_true,beq_iff_eq]at H;obtain⟨rfl,rfl⟩:=H;obtain⟨n,hn⟩: ∃n,P.types.size+Made.depth=n+1:=⟨P.types.size+(Made.depth-1),by unfold Made.depth;omega⟩;have Q:(receiverAt t (.val v) q (if m.path.isEmpty then some ((name.splitOn ".").getLastD name)else none)).run P w= .ok v w:=by
     unfold ptrB at E
     cases hu:P.underlying t with
     |none=>rw [hu]at E;cases E
     |some d=>
      rw [hu]at E
      cases d<;>simp_all [receiverAt,run_underlying hu,Place.get]
    have C:(method (n+1) t v name).run P w= .ok (g,v) w:=by
     simp only [method,typeInfo,Sem.run_bind];simp [hi,hm,A,follow,hmf];simp [A]at Q;simp [Q]
    unfold callMethod;simp [hn,C,hc]
section ops
variable {P:Program}{ρ:Env}{w w0 w1 w':World}{d:Option Tmp}{x y z:Operand}{t u ty e:TypeId}{pos:String}{af:Array Edge}{g:Option (Nat×Bool)}
variable {v:Value}{b o i n c s m:Nat}{k k':IntKind}{cs xs vs:List Value}{bs:List Nat}{T:TypeId}{O O' S M:List Nat}{l l2:List Th}{α β:Type}{r:Rp α}{R:Rt α}{D:Hol}{xl yl zl:List α}{a:α}{j q:Int}{F:Nat->Prop}
theorem vU {f:FuncId}{A h:Value}{p:String}{B:Operand}{args:Array Operand}{at_:Array TypeId}(hm:uO P p h f A)(H:ev ρ B=h)(I:args.toList.map (ev ρ)=vs):
    DoC P ⟨d,.call {callee:= .invoke B p,args:=args,argTypes:=at_},ty,pos,af,g⟩ ρ w f (A::vs).toArray:=by
 have C:=hm w (args.map (ev ρ));have E:args.map (ev ρ)=vs.toArray:=by rw [<-I];apply Array.ext';simp
 unfold DoC;have J:(#[A]++vs.toArray:Array Value)=(A::vs).toArray:=by simp
 rw [E,J]at C;simp [execOp,resolve,invoke,H,E,C]
def mkiB (P:Program)(t:TypeId):Bool:=match P.underlying t with |some (.interface _)=>false|some _=>true|none=>false
theorem sF (h:mkiB P t=true)(A:ev ρ x=v):Do P ⟨d,.makeInterface t x,ty,pos,af,g⟩ ρ w (.iface t v) w:=by
 unfold mkiB at h
 cases hu:P.underlying t with
 |none=>rw [hu]at h;cases h
 |some p=>
  rw [hu]at h;unfold Do
  cases p<;>simp_all [execOp,Instr.makeInterface,run_underlying hu]
theorem row_n {n c:Nat}{a:Option Addr}(h:(Rt.row R e D).rd F w [.slice a n c] bs xl):n=xl.length:=by
 obtain⟨_,_,p⟩:=jQ h;cases p;rfl
theorem Hd.fV {cap:Nat}(H:Hd O w0 w S l)(i:Nat)(hi:l[i]? =some (.tr (Rt.row R e D) [v] bs xl))(_:v= .slice (some ⟨b,o,none⟩) n cap)(B:at' xl j=some a)(C:D.lookup j.toNat=none):
  ∃c h p,Hd O w0 w S (rest [i] l++[.tr (Rt.row R e ((j.toNat,c)::D)) [v] h xl,.tr R c p a]):=by
 obtain⟨_,_,_,c,h,p,_,_,E⟩:=H.focus i hi B C;exact⟨c,h,p,E⟩
theorem Hd.holeW {c:List Value}{f cap:Nat}(H:Hd O w0 w S l)(i:Nat)(hi:l[i]? =some (.tr (Rt.row R e D) [v] bs xl))(h:v= .slice (some ⟨b,o,none⟩) n cap)(p:at' xl j=some a)(A:j.toNat=f)(B:D.lookup f=some c):Cells w ⟨b,o+j.toNat*R.sz,none⟩ c:=by
 subst h;obtain rfl:=row_n (H.V hi);exact H.holeV i hi rfl p A B
theorem yE {c vs:List Value}{f off cap p:Nat}{C:Value}(H:Hd O w0 w S l)(i:Nat)(hi:l[i]? =some (.tr (Rt.row R e ((f,c)::D)) [v] bs xl))(E:v= .slice (some ⟨b,o,none⟩) n cap)(A:at' xl j=some a)(I:j.toNat=f)(J:ev ρ x= .pointer (some ⟨b,o+j.toNat*R.sz+off,none⟩))
    (L:Sz P t p)(hm:vs.length=p)(N:ev ρ y=C)(B:C.cells=vs.toArray)(Q: ∀v∈vs,v.oneCell'=true)(h:off+p<=R.sz):
    ∃w',DoU P ⟨none,.store t x y,ty,pos,af,g⟩ ρ w w'/\Hd O w0 w' S (l.set i (.tr (Rt.row R e ((f,splice c off vs)::D)) [v] bs xl)):=by
 subst E;obtain rfl:=row_n (H.V hi);exact aPf H i hi rfl A I J L hm N B Q h
theorem Hd.addF (H:Hd O w0 w S l)(h:r.rd (frees O l) w cs a):Hd O w0 w S (l++[.tr (Rt.of r) cs [] a]):=
 H.add (Only.refl [] w) (λp=>⟨rfl,r.mono p h⟩) (by simp [Th.blocks]) (by simp [Th.blocks])
theorem trF {F:Nat->Prop}(h:(Th.tr (Rt.of r) cs bs a).holds F w):bs=[]/\r.rd F w cs a:=h
theorem aG {F:Nat->Prop}(h:(Th.tr R [v] bs a).holds F w):v.oneCell'=true:=R.one h v (by simp)
theorem uF {F:Nat->Prop}(p:R.sz=1)(h:(Th.tr R cs bs a).holds F w): ∃v,cs=[v]:=by
 have:=R.len h;rw [p]at this
 match cs,this with
 | [v],_=>exact⟨v,rfl⟩
theorem Hd.u0 {c:List Value}{p A:List Nat}{f:Nat}(H:Hd O w0 w S l)(i k:Nat)(hi:l[i]? =some (.tr (Rt.row R e ((f,c)::D)) [v] p xl))(B:l[k]? =some (.tr R c A a))(h:i≠k)(C:j.toNat=f)(E:D.lookup f=none)(I:at' xl j=some a):
  ∃J,Hd O w0 w S (rest [i,k] l++[.tr (Rt.row R e D) [v] J xl]):=
 H.uf i k hi B h C E (set_same I)
theorem aFv {bytes:Nat}{zs:List Value}{parts:Array (Nat×Operand)}(H:Hd O w0 w S l)(i:Nat)(hi:l[i]? =some (.tr R cs bs a))(B:P.underlying t=some (.slice e))(C:El P e R.sz bytes zs)(h:1*R.sz<=16777216)(A:0<1*R.sz)
  (E:vH R.sz 1 zs (parts.toList.map λp=>(p.1,ev ρ p.2))=some cs):
  ∃v w',Do P ⟨d,.buildSlice t 1 parts,ty,pos,af,g⟩ ρ w v w'/\ ∃I,Hd O w0 w' S (rest [i] l++[.tr (Rt.row R e []) [v] I [a]]):=
 Lx_bsT (xl:=[a]) (bx:=bs) B C h A rfl E H [i] (by simp) (by simp [Go.Lf.pick,hi,bks,Th.blocks]) ⟨cs,[],bs,[],(List.append_nil _).symm,(List.append_nil _).symm,H.V hi,rfl,rfl⟩
theorem bEh {pre cs vs:List Value}{k i:Nat}(h:pre.length=k):splice (pre++cs) (0+k+i) vs=pre++splice cs i vs:=by
 subst h;unfold splice;rw [Nat.zero_add,List.take_append,List.take_of_length_le (by omega),show pre.length+i-pre.length=i by omega,List.drop_append,List.drop_eq_nil_of_le (by omega),List.nil_append,show pre.length+i+vs.length-pre.length=i+vs.length by omega];simp
theorem aSm {e:Fl α}{n:Nat}{X Y:Arr n α}{pre:List Value}{k:Nat}(H:Hd O w0 w S l)(m:Nat)(hi:l[m]? =some (.blk b (pre++(Fl.arr n e).f X) T))(B:Sz P t e.sz)(p:pre.length=k)(C:ev ρ x= .pointer (some ⟨b,0+k+j.toNat*e.sz,none⟩))(E:ev ρ y=v)(I:v.cells=(e.f a).toArray)(J:0<=j)(L:j<n)(N:Arr.set X j a=Y):
  ∃w',DoU P ⟨none,.store t x y,ty,pos,af,g⟩ ρ w w'/\Hd O w0 w' S (l.set m (.blk b (pre++(Fl.arr n e).f Y) T)):=by
 subst N;have h:0+k+j.toNat*e.sz+(e.f a).length<=(pre++(Fl.arr n e).f X).length:=by
  rw [List.length_append,(Fl.arr n e).len,e.len,p,Nat.zero_add,Nat.add_assoc,<-Nat.succ_mul];exact Nat.add_le_add_left (Nat.mul_le_mul_right _ (by omega)) _
 obtain⟨w',Q,A⟩:=tX (P:=P) (ρ:=ρ) (ty:=ty) (pos:=pos) (af:=af) (g:=g) B (e.len a) C (by rw [E,I]) (e.one a) (H.V hi) h;rw [bEh p,Arr.f_set J L]at A;exact⟨w',Q,H.wr hi A⟩
theorem Cells.suf {pre:List Value}{k:Nat}(h:Cells w ⟨b,o,none⟩ (pre++cs))(p:pre.length=k):Cells w ⟨b,o+k,none⟩ cs:=by
 subst p;have q:=Cells.drop h pre.length cs.length;rwa [List.drop_left',List.take_of_length_le (Nat.le_refl _)]at q;rfl
theorem row_zero:(Rt.row R e D).rd F w [.slice none 0 0] [] ([]:List α):=⟨_,[],[],rfl,by simp [ob,kM],⟨rfl,rfl⟩,OwO.nil⟩
theorem aVd {bytes s:Nat}{zv:Value}{j:Int}{a:α}{xl:List α}(A:P.underlying t=some (.slice e))(B:El P e s bytes [zv])(h:s=1)(C:ev ρ x= .int .i64 j)(E:ev ρ y= .int .i64 j)(hm:make' bytes j a=some xl):
    ∃v w',Do P ⟨d,.makeSlice t x y,ty,pos,af,g⟩ ρ w v w'/\fK w w':=by
 obtain⟨H,_,_,rfl⟩:=aGa hm;have p:(j.toNat:Int)=j:=Int.toNat_of_nonneg H;obtain⟨v,w',I,b,rfl,J⟩:=bFm (P:=P) (ρ:=ρ) (w:=w) (d:=d) (ty:=ty) (pos:=pos) (af:=af) (g:=g) (n:=j.toNat) (cs:=List.replicate j.toNat zv) A B (by rw [p];exact C) (by rw [p];exact E) (by omega) (by omega) (by rw [h];exact aGd);exact⟨_,w',I,J.only.below⟩
end ops
theorem aN {F:Nat->Prop}{w:World}{α:Type}{R:Rt α}{e:TypeId}{D:Hol}{v:Value}{bs:List Nat}{xl:List α}{b o n cap:Nat}(h:(Rt.row R e D).rd F w [v] bs xl)(p:v= .slice (some ⟨b,o,none⟩) n cap):v= .slice (some ⟨b,o,none⟩) xl.length cap:=by
 obtain⟨a,c,q⟩:=jQ h;rw [q]at p
 injection p with h1 h2 h3
 rw [q,h1,h3]
def aSe {κ ν:Type} [DecidableEq κ] (l:List (κ×ν))(k:κ):Bool:=l.any λp=>decide (p.1=k)
section
variable {P:Program}{ρ:Env}{w w0:World}{d:Option Tmp}{x y z:Operand}{t kt et ty:TypeId}{pos:String}{af:Array Edge}{g:Option (Nat×Bool)}{O S:List Nat}{l:List Th}{i b:Nat}{κ ν:Type}{K:Ky κ}{G:ν->Value}{m m':List (κ×ν)}{k:κ}{v u:ν}{hb:Bool}
theorem bCw [DecidableEq κ] {F:Nat->Prop}{zv:ν}(h:Th.holds F w (.mp b (eY K G m)))(E:P.underlying t=some (.map kt et))(B:P.underlying kt=some K.t)(N:ev ρ x= .map (some b))(Q:ev ρ y=K.f k)(X:(zeroValue et).run P w= .ok (G zv) w)(Y:mM m k zv=u)(e2:aSe m k=hb):
  Do P ⟨d,.lookup t x y true,ty,pos,af,g⟩ ρ w (.tuple #[G u,.bool hb]) w:=by
 subst Y e2;obtain⟨H,c,I,J⟩:=h;unfold Do;have q:(Instr.lookup t (.map (some b)) (K.f k) true).run P w= .ok (.tuple #[G (mM m k zv),.bool (aSe m k)]) w:=by
  have L: ∀e,(Instr.checkKey e 10000 kt (K.f k)).run P w= .ok () w:=λe=>MapKept.run_checkKey B (K.key k) e 9999
  unfold mM aSe
  cases hf:m.find? λp=>decide (p.1=k)with
  |none=>
   have A:m.any (λp=>decide (p.1=k))=false:=by
    rw [List.find?_eq_none]at hf;rw [List.any_eq_false];intro p hp;exact hf p hp
   have C:=(sS K G k H.toList m 0 J).1 A;simp [Instr.lookup,run_underlying E,MapKept.run_getObj_map I,L,MapKept.run_findKey B C,X,Result.andThen,A]
  |some p=>
   obtain⟨j,C⟩:=(sS K G k H.toList m 0 J).2 p hf;have A:m.any (λp=>decide (p.1=k))=true:=by
    have:=List.find?_some hf;exact List.any_eq_true.2 ⟨p,List.mem_of_find?_eq_some hf,this⟩
   simp [Instr.lookup,run_underlying E,MapKept.run_getObj_map I,L,MapKept.run_findKey B C,Result.andThen,A]
 simp [execOp,N,Q,q]
end
section
variable {w w0 w1:World}{O O1 S S1:List Nat}{l l1:List Th}{α:Type}{R:Rt α}{D:Hol}{e:TypeId}{v:Value}{bs cs:List Nat}{xl:List α}{b o n cap f:Nat}{c:List Value}{j:Int}{a:α}{T:TypeId}
theorem bEc {c:List Value}(h:List Nat)(k:Nat)(p:(rest h l)[k]? =some (.blk b c T)):b∈O++bks (rest h l):=
 List.mem_append_right _ (dK.2 ⟨_,qS p,by simp [Th.blocks]⟩)
theorem Hd.firmH (H:Hd O w w S l)(_H1:Hd O1 w w S1 l1)(B:List Nat)(k:Nat)(C:(rest B l)[k]? =some (.tr (Rt.row R e D) [v] bs xl))(E:v= .slice (some ⟨b,o,none⟩) n cap)(h:at' xl j=some a)(I:j.toNat=f)(J:D.lookup f=some c)(L:O1=O++bks (rest B l):=by rfl):
  ∀w',Only S1 w w'->Cells w' ⟨b,o+j.toNat*R.sz,none⟩ c:=by
 obtain⟨i,_,hi⟩:=nO.1 (qS C);intro w' N;have Q:=H.holeW i hi E h I J;have hb:b∈bs:=by
  obtain⟨X,xs,_,p,A,-,_⟩:=H.V hi;obtain rfl:v=X:=by simpa using p
  subst E;rw [A];exact List.mem_append_left _ (by simp [ob,kM])
 have hm:b∈O1:=by rw [L];exact List.mem_append_right _ (dK.2 ⟨_,qS C,hb⟩)
 have q:=_H1.fo b hm;exact(Cells.same (F:=λx=>x=b) (F':=λx=>x=b) (λx h _=>⟨h,by rw [h];exact N.block b q.1 q.2⟩) rfl q.1 Q).2.2
end
end Go.Lf
namespace Go.MxM
open Go.OB Go.RowKit
theorem XL_effCA {P:Program}{I:World->Prop}{N:Nat}{C:Array Oper}{κ:List Kd}{K:Mm->Env->World->Prop}{k:Nat}{M:Mm}{σ:List Nat}{rest:List Oper}{ρ:Env}{w:World}{d:Nat}{op:Op}{ty:TypeId}{pos:String}{af:Array Edge}{g:Option (Nat×Bool)}{f:FuncId}{B:Array Value}{R:World->Ending->World->Prop}(Y: ∀w w',I w->fK w w'->I w')(hk:kdOf κ k= .eff)(hw:fP N C ρ ⟨some d,op,ty,pos,af,g⟩=true)(hd:Nat.blt d N=true)(h: ∀w',fK w w'->DoC P ⟨some d,op,ty,pos,af,g⟩ ρ w' f B)
    (hc: ∀w',fK w w'->Calls P f B w' (R w'))(n: ∀w' e p,fK w w'->R w' e p-> ∃v,e= .returned v/\I p/\XL P I N C κ K (some λx=>x<p.heap.size) σ rest (upd ρ d v) p):XL P I N C κ K M (k::σ) (⟨some d,op,ty,pos,af,g⟩::rest) ρ w:=by
 intro Q w' E _ a J;simp only [dM];unfold xOp;simp only [XL.head Q,hk];refine .inl ⟨by rw [J.wanted];exact hw,.inr (.inr ⟨f,B,by rw [J.eval];exact h w' E,(hc w' E).mono λe p hR=>?_⟩)⟩;obtain⟨v,he,X,L⟩:=n w' e p E hR;exact⟨v,he,X,_,λ_ e x L=>by cases e;exact L,λw3 H=>L (XL.tail Q) w3 H (Y _ _ X H) _ (J.put (dstOk_some hd) v)⟩
end Go.MxM
namespace Go.Lf
open Go.RowKit Go.OB
theorem Hd.alloc_ruleA {P:Program}{N:Nat}{h:Array Oper}{κ:List MxM.Kd}{K:MxM.Mm->Env->World->Prop}{k:Nat}{σ:List Nat}{rest:List Oper}{ρ:Env}{w w0:World}{d:Nat}{ty t:TypeId}{pos:String}{af:Array Edge}{g:Option (Nat×Bool)}{O S:List Nat}{l:List Th}{cs:List Value}{B:Nat} (H:Hd O w0 w S l) (I:MxM.kdOf κ k= .mk B) (J:fP N h ρ ⟨some d,.alloc t,ty,pos,af,g⟩=true) (hd:Nat.blt d N=true) (p:OB.Zero P t cs)
  (n: ∀M b w',Hd O w0 w' S (l++[.blk b cs t])->MxM.XL P (λw'=>Only S w0 w') N h κ K M σ rest (upd ρ d (.pointer (some ⟨b,0,none⟩))) w'):
  MxM.XL P (λw'=>Only S w0 w') N h κ K (some λx=>x<w.heap.size) (k::σ) (⟨some d,.alloc t,ty,pos,af,g⟩::rest) ρ w:=by
 refine MxM.XL_mk (m:= .ptr) (cs:=cs) (T:=t) (λ_ _=>oS _ _) I J hd (λw' _=>?_) λb w' L _ Q E=>n _ b w' (H.add (Only.of_below L) (λ_=>E) (λX A=>?_) (by simp [Th.blocks]))
 ·unfold OB.Zero at p
  cases hi:P.info? t with
  |none=>rw [hi]at p;cases p
  |some C=>
   rw [hi]at p
   cases hzz:C.zero with
   |none=>simp [hzz]at p
   |some _=>
    simp [hzz]at p;unfold Do;simp [execOp,Instr.alloc,zeroValue,typeInfo,hi,hzz,newVar,newRow,newObj,Sem.run,<-p,MxM.Mk.val]
 ·have:X=b:=by simpa [Th.blocks]using A
  subst this;exact⟨Nat.le_of_not_lt Q,(Array.getElem?_eq_some_iff.1 E).1⟩
end Go.Lf
