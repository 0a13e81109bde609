/- Laws that the claim stands on; no condition beyond those stated. -/
import Derived.Test.YtolnigkhnidkoacGreatDoorUP
import Derived.Test.YtolnigkhnidkoacGreatDoorPLb
namespace Go.Lf
open Go.RowKit Go.OB
theorem nwi (a n b:Int):(!(decide (a<=n)&&decide (n<=b)))=(decide (n<a)||decide (b<n)):=by
 by_cases c:a<=n<;>by_cases d:n<=b;simp [c,d,Int.not_lt.2 c,Int.not_lt.2 d];simp [c,d,Int.not_le.1 d];simp [c,d,Int.not_le.1 c];simp [c,d,Int.not_le.1 c]
theorem lwi (n a b:Int):Fae n a b=some (decide (a<=n)&&decide (n<=b)):=by
 unfold Fae;simp only [zK,dM,zC]
theorem fwi (n a b:Int):Fa6 n a b=some (decide (a<=n)&&decide (n<=b)):=by
 unfold Fa6;simp only [zK,dM,zC]
theorem swi (n a b:Int):Faa n a b=some (decide (a<=n)&&decide (n<=b)):=by
 unfold Faa;simp only [zK,dM,zC]
theorem vwi (n a b:Int):Fbl n a b=some (decide (a<=n)&&decide (n<=b)):=by
 unfold Fbl;simp only [zK,dM,zC]
theorem out2 (n a b:Int):Fac n a b=some (decide (n<a)||decide (b<n)):=by
 unfold Fac;simp only [zK,xY,zC]
theorem out5 (n a b:Int):Fab n a b=some (decide (n<a)||decide (b<n)):=by
 unfold Fab;simp only [zK,xY,zC]
theorem out7 (n a b:Int):Fah n a b=some (decide (n<a)||decide (b<n)):=by
 unfold Fah;simp only [zK,xY,zC]
def aAq (x:Nat):Bool:=decide (97<=x)&&decide (x<=122)
def wV:Str->Bool
 | []=>false
 |c::t=>decide (t.length<30)&&(aAq c.toNat&&t.all λc=>aW c.toNat)
theorem low_nm {x:Nat}(h:aAq x=true):aW x=true:=by
 unfold aAq at h;unfold aW;rw [h];rfl
theorem aRh (s:Str):Fb4 s=some (wV s):=by
 cases s with
 |nil=>rfl
 |cons c t=>
  unfold Fb4 wV Fe9;simp only [zK,List.length_cons,show byte' (c::t) 0=some (c.toNat:Int)from aCg (s:=c::t) (i:=0) rfl,zC,xY];have a:decide (((t.length+1:Nat):Int)<1)=false:=qD (by omega);rw [a];simp only [Bool.false_or];have b:(decide ((c.toNat:Int)<97)||decide (122<(c.toNat:Int)))= !aAq c.toNat:=by
   unfold aAq;have:=nwi 97 (c.toNat:Int) 122;rw [<-this]
   congr 2
   ·exact decide_eq_decide.2 (by omega)
   ·exact decide_eq_decide.2 (by omega)
  rw [Bool.or_assoc,b];have d:(!(c::t).any λc=> !aW c.toNat)=(c::t).all λc=>aW c.toNat:=by
   rw [List.any_eq_not_all_not];simp
  rw [d,List.all_cons];have e:decide (30<((t.length+1:Nat):Int))= !decide (t.length<30):=by
   by_cases h:t.length<30
   ·rw [dT h];exact qD (by omega)
   ·rw [qD h];exact dT (by omega)
  rw [e]
  cases h1:decide (t.length<30)with
  |false=>rfl
  |true=>
   cases h2:aAq c.toNat with
   |false=>rfl
   |true=>rw [low_nm h2];rfl
theorem aSg (s:Str) (d:s.length<=9223372036854775807):Fb3 s=some (wV s):=by
 unfold Fb3 Fjh;rw [xJ];rw [xU s (λi c=>if (!(aAq c.toNat||(decide (0<i)&&aW c.toNat)))=true then some (some false)else none) (some (decide (1<=(s.length:Int))&&decide ((s.length:Int)<=30))) d]
 ·rw [vF]
  cases s with
  |nil=>rfl
  |cons c t=>
   have e:rP (λi (c:UInt8)=> !(aAq c.toNat||(decide (0<i)&&aW c.toNat))) (c::t) 0= !(aAq c.toNat&&t.all λc=>aW c.toNat):=by
    rw [rP];have f: ∀(l:List UInt8) (i:Nat),rP (λi (c:UInt8)=> !(aAq c.toNat||(decide (0<i)&&aW c.toNat))) l (i+1)= !(l.all λc=>aW c.toNat):=by
     intro l
     induction l with
     |nil=>intro i;rfl
     |cons x l g=>
      intro i;rw [rP,g,List.all_cons];have:(aAq x.toNat||(decide (0<i+1)&&aW x.toNat))=aW x.toNat:=by
       rw [dT (Nat.succ_pos i),Bool.true_and]
       cases h:aAq x.toNat with
       |false=>rfl
       |true=>rw [low_nm h];rfl
      rw [this]
      cases aW x.toNat<;>rfl
    rw [f];simp only [Nat.lt_irrefl,decide_false,Bool.false_and,Bool.or_false]
    cases aAq c.toNat<;>rfl
   rw [e,show wV (c::t)=(decide (t.length<30)&&(aAq c.toNat&&t.all λc=>aW c.toNat))from rfl];have a:decide (1<=(((c::t).length:Nat):Int))=true:=dT (by rw [List.length_cons];omega);have b:decide ((((c::t).length:Nat):Int)<=30)=decide (t.length<30):=decide_eq_decide.2 (by rw [List.length_cons];omega);rw [a,b]
   cases aAq c.toNat<;>cases(t.all λc=>aW c.toNat)<;>cases decide (t.length<30)<;>rfl
 ·intro k i c j hi;simp only [zK,yF hi,zU,aCg j,zC,dM];have a:(decide (97<=(c.toNat:Int))&&decide ((c.toNat:Int)<=122))=aAq c.toNat:=by
   unfold aAq;congr 1<;>exact decide_eq_decide.2 (by omega)
  have b:decide (0<(i:Int))=decide (0<i):=decide_eq_decide.2 (by omega);rw [a,b];have m:gI (decide (48<=(c.toNat:Int))&&decide ((c.toNat:Int)<=57)) (some false) (some !decide ((c.toNat:Int)=45))=some !((decide (48<=c.toNat)&&decide (c.toNat<=57))||decide (c.toNat=45)):=by
   have n:decide (48<=(c.toNat:Int))=decide (48<=c.toNat):=decide_eq_decide.2 (by omega);have a2:decide ((c.toNat:Int)<=57)=decide (c.toNat<=57):=decide_eq_decide.2 (by omega);have a3:decide ((c.toNat:Int)=45)=decide (c.toNat=45):=decide_eq_decide.2 (by omega);rw [n,a2,a3]
   cases(decide (48<=c.toNat)&&decide (c.toNat<=57))<;>rfl
  rw [m,fJ hi d];have o:aW c.toNat=(aAq c.toNat||((decide (48<=c.toNat)&&decide (c.toNat<=57))||decide (c.toNat=45))):=by
   unfold aW aAq;rw [Bool.or_assoc]
  rw [o];generalize aAq c.toNat=b1;generalize ((decide (48<=c.toNat)&&decide (c.toNat<=57))||decide (c.toNat=45))=b2;generalize decide (0<i)=b3
  cases b1<;>cases b2<;>cases b3<;>rfl
 ·intro k;simp only [zK,yH,zQ,dM,zC]
theorem xB {b c:Type}{body:(b->Option c)->b->Option c}(a:Nat->b)(n:Nat){g0:b}{r:Option c}(d:n<=9223372036854775807)(e:g0=a 0)
    (h: ∀k i,i<n->body k (a i)=k (a (i+1)))(f: ∀k,body k (a n)=r):gZ body g0=r:=by
 subst e;have:=loopO_at (body:=body) a (List.replicate n ()) r (by simpa using d) (λk i _ _ hi=>h k i (by simpa using hi)) (λk=>by rw [List.length_replicate];exact f k);exact this
theorem dV {a:Type}{l:List a}{i:Nat}{x:a}(h:l[i]? =some x):l.take (i+1)=l.take i++[x]:=by
 rw [List.take_add_one,h];rfl
def aMk {a:Type}(p:a->Bool):List a->Nat->Int
 | [],_=> -1
 |x::l,i=>if p x=true then(i:Int)else aMk p l (i+1)
theorem sO {a:Type}(p:a->Bool): ∀(l:List a) (i:Nat),decide (0<=aMk p l i)=l.any p
 | [],_=>rfl
 |x::l,i=>by
  rw [aMk,List.any_cons]
  cases h:p x with
  |true=>rw [if_pos rfl,Bool.true_or];exact dT (by omega)
  |false=>rw [if_neg (by decide),Bool.false_or];exact sO p l (i+1)
theorem pF {a:Type}{body:(Int->Option Int)->Int->Option Int}(l:List a)(p:a->Bool)(b:l.length<=9223372036854775807)
  (h: ∀k (i:Nat) x,l[i]? =some x->i<l.length->body k (i:Int)=gI (p x) (some (i:Int)) (k ((i+1:Nat):Int)))(c: ∀k,body k (l.length:Int)=some (-1)):gZ body 0=some (aMk p l 0):=by
 rw [xU l (λi x=>if p x=true then some (some (i:Int))else none) (some (-1)) b (λk i x d e=>by rw [h k i x d e];cases p x<;>rfl) c];have: ∀(l:List a) (i:Nat),dB (λi x=>if p x=true then some (some (i:Int))else none) (some (-1)) l i=some (aMk p l i):=by
  intro l
  induction l with
  |nil=>intro i;rfl
  |cons x l f=>
   intro i;rw [dB,aMk]
   cases p x with
   |true=>rfl
   |false=>exact f (i+1)
 exact this l 0
theorem contI_eq (l:List Int)(c:Int)(a:l.length<=9223372036854775807):Fb8 l c=some (l.any λy=>decide (c=y)):=by
 unfold Fb8 Fer Fhp;rw [xJ,zK,pF l (λy=>decide (c=y)) a (λk _ _ d b=>by simp only [zK,yF b,zU,yS d,zC,fJ b a]) (λk=>by simp only [zK,yH,zQ]),zC,zK,sO]
theorem contS_eq (l:List Str)(c:Str)(a:l.length<=9223372036854775807):Fd1 l c=some (l.any λy=>decide (c=y)):=by
 unfold Fd1 Fdf Fhe;rw [xJ,zK,pF l (λy=>decide (c=y)) a (λk _ _ d b=>by simp only [zK,yF b,zU,yS d,zC,fJ b a]) (λk=>by simp only [zK,yH,zQ]),zC,zK,sO]
theorem contM_eq (l:List Param)(c:Param)(a:l.length<=9223372036854775807):Fcj l c=some (l.any λy=>decide (y.Name=c.Name)):=by
 unfold Fcj Ff9 Fi5;rw [xJ,zK,pF l (λy=>decide (y.Name=c.Name)) a (λk _ _ d b=>by simp only [zK,yF b,zU,yS d,zC,fJ b a,Fgn]) (λk=>by simp only [zK,yH,zQ]),zC,zK,sO]
theorem contP_eq (l:List Part)(c:Int)(a:l.length<=9223372036854775807):Fb7 l c=some (l.any λy=>decide (16<=IntKind.i64.wrap (c+y.Frame))):=by
 unfold Fb7 Ff5 Fix;rw [xJ,zK,pF l (λy=>decide (16<=IntKind.i64.wrap (c+y.Frame))) a (λk _ _ d b=>by simp only [zK,yF b,zU,yS d,zC,fJ b a,Few]) (λk=>by simp only [zK,yH,zQ]),zC,zK,sO]
theorem jQ {a b:Type}{body:(Int->Option b)->Int->Option b}(l:List a)(p:a->Bool)(r fin:Option b)(c:l.length<=9223372036854775807)
  (h: ∀k (i:Nat) x,l[i]? =some x->i<l.length->body k (i:Int)=gI (p x) r (k ((i+1:Nat):Int)))(d: ∀k,body k (l.length:Int)=fin):gZ body 0=gI (l.any p) r fin:=by
 rw [xU l (λ_ x=>if p x=true then some r else none) fin c (λk i x e f=>by rw [h k i x e f];cases p x<;>rfl) d];have: ∀(l:List a) (i:Nat),dB (λ_ x=>if p x=true then some r else none) fin l i=gI (l.any p) r fin:=by
  intro l
  induction l with
  |nil=>intro i;rfl
  |cons x l g=>
   intro i;rw [dB,List.any_cons]
   cases p x with
   |true=>rfl
   |false=>exact g (i+1)
 exact this l 0
theorem any_loopF {e b:Type}{body:(Int->Option b)->Int->Option b}(l:List e)(p:e->Bool)(r fin:Option b)(g:l.length<=9223372036854775807)
  (h: ∀k (i:Nat) x,l[i]? =some x->i<l.length->body k (i:Int)=gI (p x) r (k ((i+1:Nat):Int)))(j:l.any p=false-> ∀k,body k (l.length:Int)=fin):gZ body 0=gI (l.any p) r fin:=by
 have c: ∀(d i n:Nat),i+d=l.length->d<n->(l.take i).any p=false->aX body n (i:Int)=gI (l.any p) r fin:=by
  intro d
  induction d with
  |zero=>
   intro i n o q a;obtain⟨m,rfl⟩: ∃m,n=m+1:=⟨n-1,by omega⟩;obtain rfl:i=l.length:=by omega
   rw [List.take_length]at a;rw [aX,j a,a];rfl
  |succ d s=>
   intro i n o q a;obtain⟨m,rfl⟩: ∃m,n=m+1:=⟨n-1,by omega⟩;have hi:i<l.length:=by omega
   have f:l[i]? =some l[i]:=gE hi;rw [aX,h _ i _ f hi]
   cases hp:p l[i]with
   |true=>
    have:l.any p=true:=List.any_eq_true.2 ⟨l[i],List.getElem_mem hi,hp⟩;rw [this];rfl
   |false=>
    refine s (i+1) m (by omega) (by omega) ?_;rw [dV f,List.any_append,a,List.any_cons,hp];rfl
 exact c l.length 0 FU (by omega) (aOv g) rfl
def nP (l:List Part):Int:=l.foldl (λs x=>IntKind.i64.wrap (s+x.Bits)) 0
theorem aNx {b a σ:Type}{body:(σ×Int->Option a)->σ×Int->Option a}(l:List b)(f:σ->b->σ)(fin:σ->Option a)(s:σ)(c:l.length<=9223372036854775807)
  (h: ∀k (i:Nat) s x,l[i]? =some x->i<l.length->body k (s,(i:Int))=k (f s x,((i+1:Nat):Int)))(d: ∀k s,body k (s,(l.length:Int))=fin s):gZ body (s,0)=fin (l.foldl f s):=
 aLh (λ(i:Nat) (s:σ)=>(s,(i:Int))) l f fin c h d s
theorem aPu (p:Param)(a:p.Parts.length<=9223372036854775807):Fan p=some (nP p.Parts):=by
 unfold Fan Fjl;rw [zK,aNx p.Parts (λs x=>IntKind.i64.wrap (s+x.Bits)) (λs=>some s) 0 a (λk _ s x c b=>by simp only [zK,yF b,zU,yS c,zC,fJ b a]) (λk s=>by simp only [zK,yH,zQ])];rfl
theorem aQo (p:Param)(a:p.Parts.length<=9223372036854775807):Fa4 p=some (nP p.Parts):=aPu p a
def dC (n a b:Int):Bool:=decide (n<a)||decide (b<n)
theorem aBi {n a b:Int}:dC n a b=false↔a<=n/\n<=b:=by
 unfold dC;simp only [Bool.or_eq_false_iff,decide_eq_false_iff_not];omega
def kV (x:Part):Bool:=((dC x.Frame 0 15||dC x.Word 4 60)||dC x.Low 0 10)||dC x.Bits 1 (IntKind.i64.wrap (11-x.Low))
def pfM (p:Param):Int:=if p.Parts.length=0 then 13 else if 8<p.Parts.length then 3 else if p.Parts.any kV=true then 9 else if 40<nP p.Parts then 3 else 0
theorem pf_2 (p:Param) (a:p.Parts.length<=9223372036854775807):Fb6 p=some (pfM p):=by
 unfold Fb6 pfM Fh3;have c:((8:Int)<(p.Parts.length:Int))↔8<p.Parts.length:=by omega
 have d:((p.Parts.length:Int)=0)↔p.Parts.length=0:=by omega
 repeat (first |rw [zK]|rw [xJ]|rw [zC])
 rw [jQ p.Parts kV (some 9) (if 40<nP p.Parts then some 3 else some 0) a]
 ·simp only [yV,c,d];split
  ·rfl
  ·split
   ·rfl
   ·cases p.Parts.any kV with
    |true=>rfl
    |false=>simp only [zQ,Bool.false_eq_true,if_false];split<;>rfl
 ·intro k _ _ e b;simp only [zK,yF b,zU,yS e,zC,fJ b a,out2,xY];rfl
 ·intro k;simp only [zK,yH,zQ,aQo p a,zC,yV]
theorem aLz {x:Part}(h:kV x=false):0<=x.Frame/\x.Frame<=15/\4<=x.Word/\x.Word<=60/\0<=x.Low/\x.Low<=10/\1<=x.Bits/\x.Low+x.Bits<=11:=by
 unfold kV at h;simp only [Bool.or_eq_false_iff,aBi]at h;obtain⟨⟨⟨_,_⟩,_⟩,a⟩:=h;rw [Go.OB.wrap_i64 (by omega) (by omega)]at a;omega
def vY (p:Param):Bool:= !(decide (p.Every=1)||(decide (p.Every=2)||(decide (p.Every=4)||(decide (p.Every=8)||decide (p.Every=16)))))||(dC p.First 0 (p.Every-1)||(dC p.Times 1 57||(decide (p.Step<0)|| !(decide (p.Step=0)==decide (p.Times=1)))))
def sD (p:Param)(x:Part):Bool:=decide (57<p.Step)||decide (60<x.Word+(p.Times-1)*p.Step)
def tfM (p:Param):Int:=if vY p=true then 9 else if p.Parts.any (λx=>sD p x)=true then 9 else 0
structure bK (p:Param):Prop where
 ev:p.Every=1\/p.Every=2\/p.Every=4\/p.Every=8\/p.Every=16
 f0:0<=p.First
 f1:p.First<p.Every
 t1:1<=p.Times
 t2:p.Times<=57
 s0:0<=p.Step
 s1:p.Step=0↔p.Times=1
theorem aQa {p:Param}(h:vY p=false):bK p:=by
 unfold vY at h;simp only [Bool.or_eq_false_iff,aBi,Bool.not_eq_false',Bool.or_eq_true,decide_eq_true_eq,decide_eq_false_iff_not,beq_iff_eq,decide_eq_decide]at h;obtain⟨a,⟨b,_⟩,⟨c,d⟩,_,e⟩:=h;exact⟨a,b,by omega,c,d,by omega,e⟩
theorem every_l (n:Int):([1,2,4,8,16]:List Int).any (λy=>decide (n=y))=(decide (n=1)||(decide (n=2)||(decide (n=4)||(decide (n=8)||decide (n=16))))):=by
 simp only [List.any_cons,List.any_nil,Bool.or_false]
theorem prod_le {a b:Int}(d:0<=a)(e:a<=56)(c:0<=b)(f:b<=60):0<=a*b/\a*b<=3360:=by
 refine⟨Int.mul_nonneg d c,?_⟩;have:=Int.mul_le_mul e f c (by omega:(0:Int)<=56);omega
structure qN (p:Param):Prop where
 n1:1<=p.Parts.length
 n8:p.Parts.length<=8
 all: ∀x∈p.Parts,kV x=false
 sum:nP p.Parts<=40
theorem aNa {p:Param} (h:pfM p=0):qN p:=by
 unfold pfM at h;split at h
 ·cases h
 ·split at h
  ·cases h
  ·split at h
   ·cases h
   ·split at h
    ·cases h
    ·rename_i _ _ a _;refine⟨by omega,by omega,λx b=>?_,by omega⟩
     cases hb:kV x with
     |false=>rfl
     |true=>exact absurd (List.any_eq_true.2 ⟨x,b,hb⟩) a
theorem aWr (p:Param):(!(decide (p.Every=1)||(decide (p.Every=2)||(decide (p.Every=4)||(decide (p.Every=8)||decide (p.Every=16)))))||(decide (p.First<0)||decide (IntKind.i64.wrap (p.Every-1)<p.First))||(decide (p.Times<1)||decide (57<p.Times))||decide (p.Step<0)|| !(decide (p.Step=0)==decide (p.Times=1)))=vY p:=by
 unfold vY dC
 by_cases a:(decide (p.Every=1)||(decide (p.Every=2)||(decide (p.Every=4)||(decide (p.Every=8)||decide (p.Every=16)))))=true
 ·have:IntKind.i64.wrap (p.Every-1)=p.Every-1:=by
   simp only [Bool.or_eq_true,decide_eq_true_eq]at a;exact Go.OB.wrap_i64 (by omega) (by omega)
  rw [this];simp only [Bool.or_assoc]
 ·rw [Bool.not_eq_true]at a;rw [a];rfl
theorem aHj {b:Type}{p q:b->Bool}{l:List b}(h: ∀x∈l,p x=q x):l.any p=l.any q:=by
 rw [Bool.eq_iff_iff,List.any_eq_true,List.any_eq_true];constructor<;>rintro⟨x,a,_⟩;exact⟨x,a,by rwa [<-h x a]⟩;exact⟨x,a,by rwa [h x a]⟩
theorem aUv {p:Param}{x:Part} (a:bK p) (d:kV x=false):(decide (60<p.Step)||decide (60<IntKind.i64.wrap (x.Word+IntKind.i64.wrap (IntKind.i64.wrap (p.Times-1)*p.Step))))=sD p x:=by
 have e:=aLz d;have t1:=a.t1;have t2:=a.t2;unfold sD;rw [Go.OB.wrap_i64 (by omega: -9223372036854775808<=p.Times-1) (by omega)]
 by_cases c:p.Step<=60
 ·have f:=prod_le (by omega:0<=p.Times-1) (by omega) a.s0 c;rw [Go.OB.wrap_i64 (n:=(p.Times-1)*p.Step) (by omega) (by omega),Go.OB.wrap_i64 (by omega) (by omega)]
  by_cases b:57<p.Step
  ·have:1<p.Times:=by have:=a.s1;omega
   have g:p.Step<=(p.Times-1)*p.Step:=by
    have:=Int.mul_le_mul_of_nonneg_right (by omega:(1:Int)<=p.Times-1) a.s0;omega
   rw [dT b,dT (by omega:60<x.Word+(p.Times-1)*p.Step)];simp
  ·rw [qD b,qD (by omega: ¬60<p.Step)]
 ·rw [dT (by omega:60<p.Step),dT (by omega:57<p.Step)];rfl
theorem last_2 {p:Param}{x:Part} (a:bK p) (b:kV x=false):((decide (1<p.Times)&&decide (57<p.Step))||decide (60<IntKind.i64.wrap (x.Word+IntKind.i64.wrap (IntKind.i64.wrap (p.Times-1)*p.Step))))=sD p x:=by
 rw [<-aUv a b];have e:=aLz b;have t1:=a.t1;have t2:=a.t2;by_cases c:57<p.Step;have d:1<p.Times:=by have:=a.s1;omega
 rw [aUv a b];unfold sD;rw [dT c,dT d];rfl;rw [qD c,qD (by omega: ¬60<p.Step),Bool.and_false]
theorem pf_l (p:Param) (c:p.Parts.length<=9223372036854775807):Fcw p=some (if pfM p=0 then tfM p else pfM p):=by
 unfold Fcw Fhf;have g:((8:Int)<(p.Parts.length:Int))↔8<p.Parts.length:=by omega
 have h:((p.Parts.length:Int)=0)↔p.Parts.length=0:=by omega
 repeat (first |rw [zK]|rw [xJ]|rw [zC])
 simp only [yV,g,h]
 by_cases a:p.Parts.length=0
 ·rw [if_pos a,show pfM p=13 by unfold pfM;rw [if_pos a]];rfl
 rw [if_neg a]
 by_cases c2:8<p.Parts.length
 ·rw [if_pos c2,show pfM p=3 by unfold pfM;rw [if_neg a,if_pos c2]];rfl
 rw [if_neg c2];rw [any_loopF p.Parts kV (some 9) (if 40<nP p.Parts then some 3 else some (tfM p)) c]
 ·cases c3:p.Parts.any kV with
  |true=>rw [show pfM p=9 by unfold pfM;rw [if_neg a,if_neg c2,if_pos c3]];rfl
  |false=>
   rw [zQ]
   by_cases c4:40<nP p.Parts
   ·rw [if_pos c4,show pfM p=3 by unfold pfM;rw [if_neg a,if_neg c2,c3,if_neg (by decide),if_pos c4]];rfl
   ·rw [if_neg c4,show pfM p=0 by unfold pfM;rw [if_neg a,if_neg c2,c3,if_neg (by decide),if_neg c4]];rfl
 ·intro k i x e d;simp only [zK,yF d,zU,yS e,zC,fJ d c,lwi,xY,nwi];rfl
 ·intro c3 k;have b: ∀x∈p.Parts,kV x=false:=λx f=>by
   cases hb:kV x with
   |false=>rfl
   |true=>rw [List.any_eq_true.2 ⟨x,f,hb⟩]at c3;cases c3
  simp only [zK,yH,zQ,aPu p c,zC,yV]
  by_cases c4:40<nP p.Parts
  ·rw [if_pos c4,if_pos c4]
  rw [if_neg c4,if_neg c4];simp only [contI_eq _ _ (by decide:([1,2,4,8,16]:List Int).length<=9223372036854775807),zC,lwi,nwi,xY,every_l];have j:=aWr p;rw [j]
  cases hb:vY p with
  |true=>rw [tfM,hb];rfl
  |false=>
   rw [zQ];have l:=aQa hb;unfold Fhi;rw [jQ p.Parts (λx=>decide (60<p.Step)||decide (60<IntKind.i64.wrap (x.Word+IntKind.i64.wrap (IntKind.i64.wrap (p.Times-1)*p.Step)))) (some 9) (some 0) c]
   ·rw [tfM,hb,aHj (λx f=>aUv l (b x f)),if_neg (by decide)]
    cases(p.Parts.any λx=>sD p x)<;>rfl
   ·intro k i x e d;simp only [zK,yF d,zU,yS e,zC,fJ d c,xY]
   ·intro k;simp only [zK,yH,zQ]
theorem tf_2 (p:Param) (c:p.Parts.length<=9223372036854775807) (a: ∀x∈p.Parts,kV x=false):Fcg p=some (tfM p):=by
 unfold Fcg;simp only [zK,zC,out2,xY];have e:(gI (decide (p.Every=1)) (some (decide (p.Every=1))) (gI (decide (p.Every=2)) (some (decide (p.Every=2))) (gI (decide (p.Every=4)) (some (decide (p.Every=4))) (gI (decide (p.Every=8)) (some (decide (p.Every=8))) (some (decide (p.Every=16)))))))=some (decide (p.Every=1)||(decide (p.Every=2)||(decide (p.Every=4)||(decide (p.Every=8)||decide (p.Every=16))))):=by
  simp only [aWw]
 rw [e,zC];have b:=aWr p
 cases hE:(decide (p.Every=1)||(decide (p.Every=2)||(decide (p.Every=4)||(decide (p.Every=8)||decide (p.Every=16)))))with
 |false=>
  rw [hE]at b;rw [zQ,tfM,<-b];rfl
 |true=>
  rw [hE]at b;simp only [Bool.not_true,Bool.false_or]at b;rw [zU,b]
  cases hb:vY p with
  |true=>rw [tfM,hb];rfl
  |false=>
   rw [zQ,xJ];have f:=aQa hb;unfold Fih;rw [jQ p.Parts (λx=>(decide (1<p.Times)&&decide (57<p.Step))||decide (60<IntKind.i64.wrap (x.Word+IntKind.i64.wrap (IntKind.i64.wrap (p.Times-1)*p.Step)))) (some 9) (some 0) c]
   ·rw [tfM,hb,aHj (λx g=>last_2 f (a x g)),if_neg (by decide)]
    cases(p.Parts.any λx=>sD p x)<;>rfl
   ·intro k _ x h d;simp only [zK,yF d,zU,yS h,zC,fJ d c,xY,dM]
   ·intro k;simp only [zK,yH,zQ]
def kcM (K B:Int):Bool:=((decide (K=4)&&decide (B.tmod 4≠0))||(decide (K=5)&&decide (B≠1)))||((decide (K=2)||decide (K=3))&&decide (B=1))
def aVr:List Str->Int:=λl=>match dB (λi x=>if wV x=true then(if (l.take i).any (λy=>decide (x=y))=true then some (some 5)else none)else some (some 8)) (some 0) l 0 with
 |some n=>n
 |none=>0
def kfM (p:Param):Int:=if kcM p.Kind (nP p.Parts)=true then 2 else if p.Kind≠6 then(if 0<p.Names.length then 2 else 0)else if p.Names.length=0 then 13 else if 64<p.Names.length\/(2:Int)^(nP p.Parts).toNat<p.Names.length then 3 else aVr p.Names
theorem aNv (l:List Str):dB (λi x=>if wV x=true then(if (l.take i).any (λy=>decide (x=y))=true then some (some (5:Int))else none)else some (some 8)) (some 0) l 0=some (aVr l):=by
 have: ∀(m:List Str) (i:Nat),∃n,dB (λi x=>if wV x=true then(if (l.take i).any (λy=>decide (x=y))=true then some (some (5:Int))else none)else some (some 8)) (some 0) m i=some n:=by
  intro m
  induction m with
  |nil=>intro i;exact⟨0,rfl⟩
  |cons x m d=>
   intro i;rw [dB]
   by_cases a:wV x=true
   ·rw [if_pos a]
    by_cases b:(l.take i).any (λy=>decide (x=y))=true
    ·rw [if_pos b];exact⟨5,rfl⟩
    ·rw [if_neg b];exact d (i+1)
   ·rw [if_neg a];exact⟨8,rfl⟩
 obtain⟨n,c⟩:=this l 0;rw [c,aVr,c]
theorem aJl: ∀(l:List Part) (s:Int),(∀x∈l,kV x=false)->0<=s->s+11*l.length<=1000->l.foldl (λs x=>IntKind.i64.wrap (s+x.Bits)) s=s+(l.map Part.Bits).sum/\0<=(l.map Part.Bits).sum/\(l.map Part.Bits).sum<=11*l.length
 | [],s,_,_,_=>by simp
 |x::l,s,h,c,a=>by
  have d:=aLz (h x (List.mem_cons_self ..));rw [List.length_cons]at a;rw [List.foldl_cons,Go.OB.wrap_i64 (by omega) (by omega)];have:=aJl l (s+x.Bits) (λy b=>h y (List.mem_cons_of_mem _ b)) (by omega) (by omega);rw [this.1,List.map_cons,List.sum_cons,List.length_cons];omega
theorem aJw {p:Param}(h:qN p):1<=nP p.Parts:=by
 have a:=h.n1;have b:=h.n8;have:=aJl p.Parts 0 h.all (by omega) (by omega);unfold nP;rw [this.1]
 cases hp:p.Parts with
 |nil=>rw [hp]at a;simp at a
 |cons x l=>
  have d:=aLz (h.all x (by rw [hp];exact List.mem_cons_self ..));have e:=aJl l 0 (λy c=>h.all y (by rw [hp];exact List.mem_cons_of_mem _ c)) (by omega) (by rw [hp]at b;simp at b;omega);rw [List.map_cons,List.sum_cons];omega
theorem shl_1 {n:Int}(a:0<=n)(h:n<=40):jS .i64 1 n=some ((2:Int)^n.toNat):=by
 unfold jS;have e:(IntKind.i64.bits:Int)=64:=rfl;rw [if_pos ⟨a,by rw [e];omega⟩];have b:(2:Int)^n.toNat<=2^40:=by
  have:(2:Nat)^n.toNat<=2^40:=Nat.pow_le_pow_right (by decide) (by omega)
  exact_mod_cast this
 have c:(0:Int)<=2^n.toNat:=Int.pow_nonneg (by decide);rw [Int.one_mul,Go.OB.wrap_i64 (by omega) (by omega)]
theorem rem_4 (n:Int):jM n 4=some (n.tmod 4):=by unfold jM;rw [if_neg (by decide)]
theorem kf_l (p:Param) (h:p.Parts.length<=9223372036854775807) (d:p.Names.length<=9223372036854775807) (e:qN p):Fck p=some (kfM p):=by
 have l:=aJw e;have b:=e.sum;unfold Fck kfM;simp only [aPu p h,rem_4,shl_1 (by omega:0<=nP p.Parts) b,zC,zK,xJ,dM,xY];show gI (kcM p.Kind (nP p.Parts)) _ _=_
 cases kcM p.Kind (nP p.Parts)with
 |true=>rfl
 |false=>
  rw [zQ,if_neg (by decide),yV]
  by_cases a:p.Kind≠6
  ·rw [if_pos a,if_pos a,yV]
   by_cases c:0<p.Names.length
   ·rw [if_pos c,if_pos (by omega)]
   ·rw [if_neg c,if_neg (by omega)]
  rw [if_neg a,if_neg a,yV]
  by_cases c0:p.Names.length=0
  ·rw [if_pos c0,if_pos (by omega)]
  rw [if_neg c0,if_neg (by omega)]
  by_cases f:64<p.Names.length\/(2:Int)^(nP p.Parts).toNat<p.Names.length
  ·rw [if_pos f];have:(decide (64<(p.Names.length:Int))||decide ((2:Int)^(nP p.Parts).toNat<(p.Names.length:Int)))=true:=by
    rw [Bool.or_eq_true,decide_eq_true_eq,decide_eq_true_eq];omega
   rw [this];rfl
  rw [if_neg f];have:(decide (64<(p.Names.length:Int))||decide ((2:Int)^(nP p.Parts).toNat<(p.Names.length:Int)))=false:=by
   rw [Bool.or_eq_false_iff,decide_eq_false_iff_not,decide_eq_false_iff_not];omega
  rw [this,zQ,<-aNv];unfold Fib;refine xU p.Names _ _ d (λk i x j g=>?_) (λk=>by simp only [zK,yH,zQ]);simp only [zK,yF g,zU,yS j,zC,fJ g d,aRh,aCx p.Names (by omega:i<=p.Names.length)]
  cases wV x with
  |false=>rfl
  |true=>
   rw [if_pos rfl,contS_eq _ _ (by rw [List.length_take];omega)]
   cases((p.Names.take i).any λy=>decide (x=y))<;>rfl
theorem kf_2 (p:Param) (m:p.Parts.length<=9223372036854775807) (e:p.Names.length<=9223372036854775807) (n: ∀s∈p.Names,s.length<=9223372036854775807) (f:qN p):Fdt p=some (kfM p):=by
 have q:=aJw f;have d:=f.sum;unfold Fdt kfM;simp only [aQo p m,rem_4,shl_1 (by omega:0<=nP p.Parts) d,zC,zK,xJ,dM,xY];show gI (kcM p.Kind (nP p.Parts)) _ _=_
 cases kcM p.Kind (nP p.Parts)with
 |true=>rfl
 |false=>
  rw [zQ,if_neg (by decide),yV]
  by_cases b:p.Kind≠6
  ·rw [if_pos b,if_pos b,yV]
   by_cases c:0<p.Names.length
   ·rw [if_pos c,if_pos (by omega)]
   ·rw [if_neg c,if_neg (by omega)]
  rw [if_neg b,if_neg b,yV]
  by_cases c0:p.Names.length=0
  ·rw [if_pos c0,if_pos (by omega)]
  rw [if_neg c0,if_neg (by omega)]
  by_cases g:64<p.Names.length\/(2:Int)^(nP p.Parts).toNat<p.Names.length
  ·rw [if_pos g];have:(decide (64<(p.Names.length:Int))||decide ((2:Int)^(nP p.Parts).toNat<(p.Names.length:Int)))=true:=by
    rw [Bool.or_eq_true,decide_eq_true_eq,decide_eq_true_eq];omega
   rw [this];rfl
  rw [if_neg g];have:(decide (64<(p.Names.length:Int))||decide ((2:Int)^(nP p.Parts).toNat<(p.Names.length:Int)))=false:=by
   rw [Bool.or_eq_false_iff,decide_eq_false_iff_not,decide_eq_false_iff_not];omega
  rw [this,zQ,<-aNv];unfold Fje;refine xU p.Names _ _ e (λk i x h l=>?_) (λk=>by simp only [zK,yH,zQ]);simp only [zK,xJ,yF l,zU,yS h,zC,fJ l e,aSg x (n x (qS h)),aCx p.Names (by omega:i<=p.Names.length)]
  cases wV x with
  |false=>rfl
  |true=>
   rw [if_pos rfl];unfold Fhm;have a:(p.Names.take i).length<=9223372036854775807:=by rw [List.length_take];omega
   rw [jQ (p.Names.take i) (λy=>decide (x=y)) (some 5) (k ((i+1:Nat):Int)) a (λo _ y g1 g2=>by simp only [zK,yF g2,zU,yS g1,zC,fJ g2 a]) (λo=>by simp only [zK,yH,zQ])]
   cases((p.Names.take i).any λy=>decide (x=y))<;>rfl
theorem bJ {b:Type}{a:Nat}{l m:List b}(h:l.length+m.length<=100000000)(c:a<=1000):app' a l m=some (l++m):=by
 unfold app';rw [if_pos];have e:maxLen=9223372036854775807:=maxLen_eq;refine⟨by omega,?_⟩;have:=Nat.mul_le_mul h c;omega
def stL (p:Param):List Int:=(List.range (16/p.Every).toNat).map λ(k:Nat)=>p.First+(k:Int)*p.Every
def aEb (p:Param)(s:Int):Bool:= !(p.Parts.any λy=>decide (16<=IntKind.i64.wrap (s+y.Frame)))
def dI (p:Param):List Int:=(stL p).filter (aEb p)
def aAb (p:Param)(s t:Int)(y:Part):fH:=fH.mk (IntKind.i64.wrap (s+y.Frame)) (IntKind.i64.wrap (y.Word+IntKind.i64.wrap (t*p.Step))) y.Low y.Bits
def dN (p:Param)(s t:Int):List fH:=p.Parts.map (aAb p s t)
def aY (p:Param)(a s:Int)(base n:Nat):List Cell:=(List.range n).map λ(t:Nat)=>Cell.mk a ((base+t:Nat):Int) s (dN p s t)
def cellsS (p:Param)(a:Int)(l:List Int):List Cell:=l.foldl (λcs s=>cs++aY p a s cs.length p.Times.toNat) []
def gV (p:Param)(a:Int):List Cell:=cellsS p a (dI p)
theorem stL_len (p:Param):(stL p).length=(16/p.Every).toNat:=by unfold stL;rw [List.length_map,List.length_range]
theorem aUy {p:Param}{i:Nat}{s:Int}(h:(stL p)[i]? =some s):s=p.First+i*p.Every:=by
 unfold stL at h;rw [List.getElem?_map]at h
 cases hr:(List.range (16/p.Every).toNat)[i]? with
 |none=>rw [hr]at h;cases h
 |some _=>
  rw [hr]at h;have:=(gS.1 hr).2;rw [List.getElem_range]at this;subst this;simpa using h.symm
theorem aAu {p:Param} (a:bK p):(stL p).length<=16/\(∀i<(stL p).length,p.First+(i:Int)*p.Every<16)/\ ¬(p.First+((stL p).length:Int)*p.Every<16):=by
 rw [stL_len];have c:=a.f0;have b:=a.f1;rcases a.ev with e|e|e|e|e<;>rw [e]at b⊢
 ·refine⟨by decide,λi hi=>?_,?_⟩
  ·have:i<16:=hi;omega
  ·show¬(p.First+((16:Nat):Int)*1<16);omega
 ·refine⟨by decide,λi hi=>?_,?_⟩
  ·have:i<8:=hi;omega
  ·show¬(p.First+((8:Nat):Int)*2<16);omega
 ·refine⟨by decide,λi hi=>?_,?_⟩
  ·have:i<4:=hi;omega
  ·show¬(p.First+((4:Nat):Int)*4<16);omega
 ·refine⟨by decide,λi hi=>?_,?_⟩
  ·have:i<2:=hi;omega
  ·show¬(p.First+((2:Nat):Int)*8<16);omega
 ·refine⟨by decide,λi hi=>?_,?_⟩
  ·have:i<1:=hi;omega
  ·show¬(p.First+((1:Nat):Int)*16<16);omega
theorem aJf {p:Param}(a:bK p):1<=p.Every/\p.Every<=16:=by have:=a.ev;omega
theorem next_w {p:Param}(a:bK p){i:Nat}(hi:i<(stL p).length):IntKind.i64.wrap (p.First+(i:Int)*p.Every+p.Every)=p.First+((i+1:Nat):Int)*p.Every:=by
 have b:=(aAu a).2.1 i hi;have c:=aJf a;have:(0:Int)<=(i:Int)*p.Every:=Int.mul_nonneg (by omega) (by omega);have d:=a.f0;rw [Go.OB.wrap_i64 (by omega) (by omega)];have e:((i+1:Nat):Int)*p.Every=(i:Int)*p.Every+p.Every:=by rw [Int.natCast_add,Int.add_mul,Int.natCast_one,Int.one_mul]
 omega
theorem aQx {p:Param} (a:bK p) (e:p.Parts.length<=9223372036854775807):Fbi p=some (dI p):=by
 obtain⟨f1,f2,f3⟩:=aAu a;unfold Fbi Fip;rw [xB (r:=some (dI p)) (λi=>(((stL p).take i).filter (aEb p),p.First+(i:Int)*p.Every)) (stL p).length (by omega)]
 ·rfl
 ·show([],p.First)=([],p.First+((0:Nat):Int)*p.Every);rw [Int.natCast_zero,Int.zero_mul,Int.add_zero]
 ·intro k i hi;have b:(stL p)[i]? =some (stL p)[i]:=gE hi;have c:=aUy b;simp only [zK];rw [dT (f2 i hi),zU,contP_eq _ _ e,zC,next_w a hi,dV b,List.filter_append];have f:aEb p (stL p)[i]= !(p.Parts.any λy=>decide (16<=IntKind.i64.wrap (p.First+(i:Int)*p.Every+y.Frame))):=by rw [c];rfl
  rw [<-f]
  cases h:aEb p (stL p)[i]with
  |false=>
   rw [zQ,zC,List.filter_cons_of_neg (by rw [h];decide),List.filter_nil,List.append_nil]
  |true=>
   have d:(((stL p).take i).filter (aEb p)).length<=16:=Nat.le_trans (List.length_filter_le _ _) (by rw [List.length_take];omega);rw [zU,bJ (by rw [List.length_singleton];omega) (by decide),zC,zC,List.filter_cons_of_pos h,List.filter_nil,<-c]
 ·intro k;simp only [zK];rw [qD f3,zQ,List.take_length];rfl
theorem aRy (p:Param)(s t:Int){i:Nat}{y:Part}(h:p.Parts[i]? =some y):(p.Parts.take (i+1)).map (aAb p s t)=(p.Parts.take i).map (aAb p s t)++[aAb p s t y]:=by
 rw [dV h,List.map_append,List.map_singleton]
theorem aRb (p:Param)(a s:Int)(b n:Nat):aY p a s b (n+1)=aY p a s b n++[Cell.mk a ((b+n:Nat):Int) s (dN p s n)]:=by
 unfold aY;rw [List.range_succ,List.map_append,List.map_singleton]
theorem mD (p:Param)(a s:Int)(b n:Nat):(aY p a s b n).length=n:=by unfold aY;rw [List.length_map,List.length_range]
theorem aHv (p:Param)(a:Int)(l:List Int)(s:Int):cellsS p a (l++[s])=cellsS p a l++aY p a s (cellsS p a l).length p.Times.toNat:=by
 unfold cellsS;rw [List.foldl_append,List.foldl_cons,List.foldl_nil]
theorem aBm (p:Param)(a:Int)(l:List Int):(cellsS p a l).length=l.length*p.Times.toNat:=by
 have: ∀(l:List Int) (cs:List Cell),(l.foldl (λcs s=>cs++aY p a s cs.length p.Times.toNat) cs).length=cs.length+l.length*p.Times.toNat:=by
  intro l
  induction l with
  |nil=>intro cs;simp
  |cons s l b=>
   intro cs;rw [List.foldl_cons,b,List.length_append,mD,List.length_cons,Nat.add_mul,Nat.one_mul];omega
 have:=this l [];simpa [cellsS]using this
theorem aHd {p:Param}(a:bK p)(b:Int)(l:List Int)(h:l.length<=16):(cellsS p b l).length<=912:=by
 rw [aBm];have:=a.t2;have:=Nat.mul_le_mul h (by omega:p.Times.toNat<=57);omega
theorem aNq {p:Param}(a:bK p):(dI p).length<=16:=by
 unfold dI;exact Nat.le_trans (List.length_filter_le _ _) (aAu a).1
theorem times_st {p:Param} (f:qN p) (d:bK p) (a s:Int) (cs:List Cell) (g:cs.length<=912):Fev a p s (cs,0)=some (cs++aY p a s cs.length p.Times.toNat):=by
 have t1:=d.t1;have t2:=d.t2;have h:=f.n8;unfold Fev;rw [xB (r:=some (cs++aY p a s cs.length p.Times.toNat)) (λi=>(cs++aY p a s cs.length i,(i:Int))) p.Times.toNat (by omega)]
 ·show(cs,(0:Int))=(cs++[],((0:Nat):Int));rw [List.append_nil];rfl
 ·intro k i _;simp only [zK];rw [dT (by omega:(i:Int)<p.Times),zU];have b:Fgi p s (i:Int) (p.Parts.length:Int) (0,[])=some (dN p s i):=by
   unfold Fgi;rw [xB (r:=some (dN p s i)) (λj=>((j:Int),(p.Parts.take j).map (aAb p s i))) p.Parts.length (by omega)]
   ·rfl
   ·intro k j c;have e:p.Parts[j]? =some p.Parts[j]:=gE c;simp only [zK,yF c,zU,yS e,zC,Fel];rw [bJ (by rw [List.length_map,List.length_take,List.length_singleton];omega) (by decide),zC,fJ c (by omega),aRy p s i e];rfl
   ·intro k;simp only [zK,yH,zQ,List.take_length];rfl
  rw [b,zC,bJ (by rw [List.length_append,mD,List.length_singleton];omega) (by decide),zC,zC,Go.OB.wrap_i64 (by omega) (by omega),aRb,List.length_append,mD,List.append_assoc];rfl
 ·intro k;simp only [zK];rw [qD (by omega),zQ]
theorem aOm {p:Param} (c:qN p) (b:bK p) (a:Int):Fa2 a p=some (gV p a):=by
 have e:=aNq b;unfold Fa2 Fg7;rw [aQx b (by have:=c.n8;omega),zC,zK];rw [xB (r:=some (gV p a)) (λi=>(cellsS p a ((dI p).take i),(i:Int))) (dI p).length (by omega)];rfl;rfl;intro k i hi;have d:(dI p)[i]? =some (dI p)[i]:=gE hi;simp only [zK,yF hi,zU,yS d,zC];rw [times_st c b a _ _ (aHd b a _ (by rw [List.length_take];omega)),zC,fJ hi (by omega),dV d,aHv];intro k;simp only [zK,yH,zQ,List.take_length];rfl
theorem good_2 (p:Param)(a:p.Parts.length<=9223372036854775807)(s:Int):Ffp p s (p.Parts.length:Int) (true,0)=some (aEb p s):=by
 unfold Ffp;rw [aNx p.Parts (λb (y:Part)=>b&&decide (IntKind.i64.wrap (s+y.Frame)<16)) (λb=>some b) true a (λk _ b y e d=>by simp only [zK,yF d,zU,yS e,zC,fJ d a,dM]) (λk b=>by simp only [zK,yH,zQ])]
 congr 1
 have: ∀(l:List Part) (b:Bool),l.foldl (λb (y:Part)=>b&&decide (IntKind.i64.wrap (s+y.Frame)<16)) b=(b&& !(l.any λy=>decide (16<=IntKind.i64.wrap (s+y.Frame)))):=by
  intro l
  induction l with
  |nil=>intro b;simp
  |cons y l f=>
   intro b;rw [List.foldl_cons,f,List.any_cons];have:decide (IntKind.i64.wrap (s+y.Frame)<16)= !decide (16<=IntKind.i64.wrap (s+y.Frame)):=by
    by_cases c:16<=IntKind.i64.wrap (s+y.Frame)
    ·rw [dT c];exact qD (by omega)
    ·rw [qD c];exact dT (by omega)
   rw [this,Bool.not_or,Bool.and_assoc]
 rw [this];rfl
theorem times_2 {p:Param} (f:qN p) (d:bK p) (a s:Int) (cs:List Cell) (g:cs.length<=912):Fb2 p a s true (cs,0)=some (cs++aY p a s cs.length p.Times.toNat):=by
 have t1:=d.t1;have t2:=d.t2;have h:=f.n8;unfold Fb2;rw [xB (r:=some (cs++aY p a s cs.length p.Times.toNat)) (λi=>(cs++aY p a s cs.length i,(i:Int))) p.Times.toNat (by omega)]
 ·show(cs,(0:Int))=(cs++[],((0:Nat):Int));rw [List.append_nil];rfl
 ·intro k i _;simp only [zK];rw [dT (by omega:(i:Int)<p.Times),zU,zC,zU];have b:Fe5 p s (i:Int) (p.Parts.length:Int) (0,[])=some (dN p s i):=by
   unfold Fe5;rw [xB (r:=some (dN p s i)) (λj=>((j:Int),(p.Parts.take j).map (aAb p s i))) p.Parts.length (by omega)]
   ·rfl
   ·intro k j c;have e:p.Parts[j]? =some p.Parts[j]:=gE c;simp only [zK,yF c,zU,yS e,zC];rw [bJ (by rw [List.length_map,List.length_take,List.length_singleton];omega) (by decide),zC,fJ c (by omega),aRy p s i e];rfl
   ·intro k;simp only [zK,yH,zQ,List.take_length];rfl
  rw [b,zC,bJ (by rw [List.length_append,mD,List.length_singleton];omega) (by decide),zC,zC,Go.OB.wrap_i64 (by omega) (by omega),aRb,List.length_append,mD,List.append_assoc];rfl
 ·intro k;simp only [zK];rw [qD (by omega),zQ,zC,zQ]
theorem none_2 {p:Param}(a:bK p)(b s:Int)(cs:List Cell):Fb2 p b s false (cs,0)=some cs:=by
 unfold Fb2;rw [xB (r:=some cs) (λ_=>(cs,(0:Int))) 0 (by omega) rfl (λk _ _=>by omega)];intro k;simp only [zK];rw [dT (by have:=a.t1;omega:(0:Int)<p.Times),zU,zC,zQ]
theorem aIw {p:Param} (d:qN p) (b:bK p) (a:Int):Fap p a=some (gV p a):=by
 obtain⟨f1,f2,f3⟩:=aAu b;have g:=d.n8;unfold Fap Fhl;rw [xB (r:=some (gV p a)) (λi=>(cellsS p a (((stL p).take i).filter (aEb p)),p.First+(i:Int)*p.Every)) (stL p).length (by omega)]
 ·rfl
 ·show([],p.First)=([],p.First+((0:Nat):Int)*p.Every);rw [Int.natCast_zero,Int.zero_mul,Int.add_zero]
 ·intro k i hi;have e:(stL p)[i]? =some (stL p)[i]:=gE hi;have f:=aUy e;simp only [zK];rw [dT (f2 i hi),zU,good_2 p (by omega),zC,next_w b hi,dV e,List.filter_append];rw [<-f]
  cases h:aEb p (stL p)[i]with
  |false=>
   rw [none_2 b,zC,List.filter_cons_of_neg (by rw [h];decide),List.filter_nil,List.append_nil]
  |true=>
   have c:(((stL p).take i).filter (aEb p)).length<=16:=Nat.le_trans (List.length_filter_le _ _) (by rw [List.length_take];omega);rw [times_2 d b a _ _ (aHd b a _ c),zC,List.filter_cons_of_pos h,List.filter_nil,aHv]
 ·intro k;simp only [zK];rw [qD f3,zQ,List.take_length];rfl
theorem aSv {b c:Type} [DecidableEq b] (k a:b) (v:c): ∀l:List (b×c),aEa (nV l k v) a=(decide (k=a)||aEa l a)
 | []=>by rw [nV];unfold aEa;rw [List.any_cons,List.any_nil]
 |p::l=>by
  have d:=aSv k a v l;rw [nV];unfold aEa at d⊢
  by_cases h:p.1=k
  ·rw [if_pos h,List.any_cons,List.any_cons,h]
   cases decide (k=a)<;>simp
  ·rw [if_neg h,List.any_cons,List.any_cons,d]
   cases decide (p.1=a)<;>cases decide (k=a)<;>rfl
theorem aKy {c d:Type} [DecidableEq c] (k b:c) (v z:d): ∀l:List (c×d),kT (nV l k v) b z=if k=b then v else kT l b z
 | []=>by
  rw [nV];unfold kT
  by_cases h:k=b
  ·rw [List.find?_cons_of_pos (by simpa using h),if_pos h]
  ·rw [List.find?_cons_of_neg (by simpa using h),if_neg h]
 |p::l=>by
  have f:=aKy k b v z l;rw [nV];unfold kT at f⊢
  by_cases h:p.1=k
  ·rw [if_pos h]
   by_cases a:k=b
   ·rw [List.find?_cons_of_pos (by simpa using a),if_pos a]
   ·rw [List.find?_cons_of_neg (by simpa using a),if_neg a,List.find?_cons_of_neg (by rw [h];simpa using a)]
  ·rw [if_neg h]
   by_cases a:p.1=b
   ·rw [List.find?_cons_of_pos (by simpa using a),List.find?_cons_of_pos (by simpa using a),if_neg (by rw [<-a];exact λe=>h e.symm)]
   ·rw [List.find?_cons_of_neg (by simpa using a),List.find?_cons_of_neg (by simpa using a)];exact f
theorem aAj {b a σ:Type}{body:(Int×σ->Option a)->Int×σ->Option a}(l:List b)(f:Nat->b->σ->σ ⊕ Option a)(fin:σ->Option a)(s:σ)(d:l.length<=9223372036854775807)
  (h: ∀k (i:Nat) s x,l[i]? =some x->i<l.length->body k ((i:Int),s)=match f i x s with | .inl s'=>k (((i+1:Nat):Int),s')| .inr r=>r)(e: ∀k s,body k ((l.length:Int),s)=fin s):gZ body (0,s)=kH f fin l 0 s:=
 qG (λ(i:Nat) (s:σ)=>((i:Int),s)) l f fin d (λk i s x c=>h k i s x c (gS.1 c).1) e s
theorem aNz {b a σ:Type}{body:(σ×Int->Option a)->σ×Int->Option a}(l:List b)(f:Nat->b->σ->σ ⊕ Option a)(fin:σ->Option a)(s:σ)(d:l.length<=9223372036854775807)
  (h: ∀k (i:Nat) s x,l[i]? =some x->i<l.length->body k (s,(i:Int))=match f i x s with | .inl s'=>k (s',((i+1:Nat):Int))| .inr r=>r)(e: ∀k s,body k (s,(l.length:Int))=fin s):gZ body (s,0)=kH f fin l 0 s:=
 qG (λ(i:Nat) (s:σ)=>(s,(i:Int))) l f fin d (λk i s x c=>h k i s x c (gS.1 c).1) e s
def aJ (x:fH):List fB:=(List.range x.Bits.toNat).map λ(i:Nat)=>fB.mk x.Frame x.Word (x.Low+(i:Int))
def OkP (x:fH):Prop:=0<=x.Low/\x.Low<=10/\1<=x.Bits/\x.Bits<=11
theorem bitsAt_l {x:fH} (h:OkP x):Fb9 x=some (aJ x):=by
 obtain⟨_,_,_,_⟩:=h;unfold Fb9 Fjr;rw [xB (r:=some (aJ x)) (λi=>((List.range i).map λ(i:Nat)=>fB.mk x.Frame x.Word (x.Low+(i:Int)),(i:Int))) x.Bits.toNat (by omega)];rfl;rfl;intro k i _;simp only [zK];rw [dT (by omega:(i:Int)<x.Bits),zU,Go.OB.wrap_i64 (by omega) (by omega),bJ (by rw [List.length_map,List.length_range,List.length_singleton];omega) (by decide),zC,Go.OB.wrap_i64 (by omega) (by omega),List.range_succ,List.map_append,List.map_singleton];rfl;intro k;simp only [zK];rw [qD (by omega),zQ];rfl
def tkP (o:Int):List fB->List (fB×Int)->Bool×List (fB×Int)
 | [],m=>(true,m)
 |b::l,m=>if aEa m b=true then(false,m)else tkP o l (nV m b o)
theorem aQk (o:Int): ∀(l l':List fB) (m:List (fB×Int)),tkP o (l++l') m=if (tkP o l m).1=true then tkP o l' (tkP o l m).2 else tkP o l m
 | [],l',m=>rfl
 |b::l,l',m=>by
  rw [List.cons_append,tkP,tkP]
  by_cases h:aEa m b=true
  ·rw [if_pos h,if_pos h];rfl
  ·rw [if_neg h,if_neg h];exact aQk o l l' _
theorem take_runP (o:Int)(l:List fB)(k:List (fB×Int)->Option (Bool×List (fB×Int)))(m:List (fB×Int))(a:l.length<=9223372036854775807):
  Fe7 o k l (l.length:Int) (0,m)=if (tkP o l m).1=true then k (tkP o l m).2 else some (tkP o l m):=by
 unfold Fe7;rw [aAj l (λ_ b m=>if aEa m b=true then .inr (some (false,m))else .inl (nV m b o)) (λm=>k m) m a
  (λk i m b d c=>by
   simp only [zK,yF c,zU,yS d,zC,fJ c a]
   cases aEa m b<;>rfl)
  (λk m=>by simp only [zK,yH,zQ])]
 have: ∀(l:List fB) (i:Nat) (m:List (fB×Int)),kH (λ_ b m=>if aEa m b=true then .inr (some (false,m))else .inl (nV m b o)) (λm=>k m) l i m=if (tkP o l m).1=true then k (tkP o l m).2 else some (tkP o l m):=by
  intro l
  induction l with
  |nil=>intro i m;rfl
  |cons b l e=>
   intro i m;rw [kH,tkP]
   cases h:aEa m b with
   |true=>rfl
   |false=>exact e (i+1) _
 exact this l 0 m
theorem take_l (o:Int)(l:List fH)(m:List (fB×Int))(a:l.length<=9223372036854775807)(e: ∀x∈l,OkP x):Fbm m o l=some (tkP o (l.flatMap aJ) m):=by
 unfold Fbm Fhz;rw [xJ,zK];rw [aAj l (λ_ x m=>if (tkP o (aJ x) m).1=true then .inl (tkP o (aJ x) m).2 else .inr (some (tkP o (aJ x) m))) (λm=>some (true,m)) m a
  (λk i m x b c=>by
   have d:=e x (qS b);simp only [zK,xJ,yF c,zU,yS b,zC,fJ c a,bitsAt_l d];rw [take_runP o _ _ _ (by unfold aJ;rw [List.length_map,List.length_range];have:=d.2.2.2;omega)]
   cases(tkP o (aJ x) m).1<;>rfl)
  (λk m=>by simp only [zK,yH,zQ])]
 have: ∀(l:List fH) (i:Nat) (m:List (fB×Int)),kH (λ_ x m=>if (tkP o (aJ x) m).1=true then .inl (tkP o (aJ x) m).2 else .inr (some (tkP o (aJ x) m))) (λm=>some (true,m)) l i m=some (tkP o (l.flatMap aJ) m):=by
  intro l
  induction l with
  |nil=>intro i m;rfl
  |cons x l f=>
   intro i m;rw [kH,List.flatMap_cons,aQk]
   by_cases h:(tkP o (aJ x) m).1=true
   ·rw [if_pos h,if_pos h];exact f (i+1) _
   ·rw [if_neg h,if_neg h]
 exact this l 0 m
def aMt (b:fB):Arr 3 Int:=⟨[b.frame,b.word,b.bit],rfl⟩
def tkR:List fB->Bool×List (Arr 3 Int×Bool)->Bool×List (Arr 3 Int×Bool)
 | [],s=>s
 |b::l,s=>tkR l (s.1&& !kT s.2 (aMt b) false,nV s.2 (aMt b) true)
theorem aIz: ∀(l l':List fB) (s:Bool×List (Arr 3 Int×Bool)),tkR (l++l') s=tkR l' (tkR l s)
 | [],_,_=>rfl
 |b::l,l',s=>by rw [List.cons_append,tkR,tkR];exact aIz l l' _
theorem aJj: ∀(l:List fB) (b:Bool) (m:List (Arr 3 Int×Bool)),(tkR l (b,m)).1=(b&&(tkR l (true,m)).1)/\(tkR l (b,m)).2=(tkR l (true,m)).2
 | [],b,m=>by simp [tkR]
 |x::l,b,m=>by
  rw [tkR,tkR];have a:=aJj l (b&& !kT m (aMt x) false) (nV m (aMt x) true);have c:=aJj l (true&& !kT m (aMt x) false) (nV m (aMt x) true);refine⟨?_,a.2.trans c.2.symm⟩;rw [a.1,c.1,Bool.true_and,Bool.and_assoc]
theorem take_2a {x:fH} (a:OkP x) (b:Bool) (m:List (Arr 3 Int×Bool)):Fep x (b,x.Low,m)=some (tkR (aJ x) (b,m)):=by
 obtain⟨_,_,_,_⟩:=a;unfold Fep;have e:aJ x=(List.range x.Bits.toNat).map λ(i:Nat)=>fB.mk x.Frame x.Word (x.Low+(i:Int)):=rfl;rw [xB (r:=some (tkR (aJ x) (b,m))) (λi=>((tkR ((List.range i).map λ(i:Nat)=>fB.mk x.Frame x.Word (x.Low+(i:Int))) (b,m)).1,x.Low+(i:Int),(tkR ((List.range i).map λ(i:Nat)=>fB.mk x.Frame x.Word (x.Low+(i:Int))) (b,m)).2)) x.Bits.toNat (by omega)];show(b,x.Low,m)=(b,x.Low+((0:Nat):Int),m);rw [Int.natCast_zero,Int.add_zero];intro k i _;simp only [zK];rw [Go.OB.wrap_i64 (by omega: -9223372036854775808<=x.Low+x.Bits) (by omega),dT (by omega:x.Low+(i:Int)<x.Low+x.Bits),zU,dM,zC,Go.OB.wrap_i64 (by omega) (by omega),List.range_succ,List.map_append,List.map_singleton,aIz];have:x.Low+(i:Int)+1=x.Low+((i+1:Nat):Int):=by omega
 rw [this];rfl;intro k;simp only [zK];rw [Go.OB.wrap_i64 (by omega: -9223372036854775808<=x.Low+x.Bits) (by omega),qD (by omega: ¬x.Low+(x.Bits.toNat:Int)<x.Low+x.Bits),zQ];rfl
theorem take_2 (l:List fH) (m:List (Arr 3 Int×Bool)) (a:l.length<=9223372036854775807) (c: ∀x∈l,OkP x):Feb m l=some (tkR (l.flatMap aJ) (true,m)):=by
 unfold Feb Fjp;rw [zK];rw [xB (r:=some (tkR (l.flatMap aJ) (true,m))) (λi=>((tkR ((l.take i).flatMap aJ) (true,m)).1,(i:Int),(tkR ((l.take i).flatMap aJ) (true,m)).2)) l.length a];rfl;rfl;intro k i hi;have b:l[i]? =some l[i]:=gE hi;simp only [zK,yF hi,zU,yS b,zC];rw [take_2a (c _ (List.getElem_mem hi)),zC,fJ hi a,dV b,List.flatMap_append,List.flatMap_singleton,aIz];intro k;simp only [zK,yH,zQ,List.take_length]
theorem aNk (l:List Cell) (m:List (Arr 3 Int×Bool)) (a:l.length<=9223372036854775807) (e: ∀c∈l,c.Places.length<=9223372036854775807/\ ∀x∈c.Places,OkP x):Fbd m l=some (tkR (l.flatMap λc=>c.Places.flatMap aJ) (true,m)):=by
 unfold Fbd Fh1;rw [zK];rw [xB (r:=some (tkR (l.flatMap λc=>c.Places.flatMap aJ) (true,m))) (λi=>((tkR ((l.take i).flatMap λc=>c.Places.flatMap aJ) (true,m)).1,(i:Int),(tkR ((l.take i).flatMap λc=>c.Places.flatMap aJ) (true,m)).2)) l.length a];rfl;rfl;intro k i hi;have b:l[i]? =some l[i]:=gE hi;have d:=e _ (List.getElem_mem hi);simp only [zK,yF hi,zU,yS b,zC];rw [take_2 _ _ d.1 d.2,zC,fJ hi a,dV b,List.flatMap_append,List.flatMap_singleton,aIz];generalize tkR ((l.take i).flatMap λc=>c.Places.flatMap aJ) (true,m)=s;have:=aJj (l[i].Places.flatMap aJ) s.1 s.2;have f:tkR (l[i].Places.flatMap aJ) s=((s.1&&(tkR (l[i].Places.flatMap aJ) (true,s.2)).1),(tkR (l[i].Places.flatMap aJ) (true,s.2)).2):=Prod.ext this.1 this.2;rw [f];generalize tkR (l[i].Places.flatMap aJ) (true,s.2)=q;obtain⟨g,_⟩:=q;obtain⟨s1,_⟩:=s;cases g<;>cases s1<;>rfl;intro k;simp only [zK,yH,zQ,List.take_length]
def relB (m:List (fB×Int))(m':List (Arr 3 Int×Bool)):Prop:= ∀b,aEa m b=kT m' (aMt b) false
theorem aSe {a b:fB}:aMt a=aMt b↔a=b:=by
 constructor
 ·intro h;have:=congrArg Arr.l h;simp only [aMt,List.cons.injEq,and_true]at this
  cases a;cases b
  simp_all
 ·intro h;rw [h]
theorem aVk (o:Int): ∀(l:List fB) (m:List (fB×Int)) (m':List (Arr 3 Int×Bool)),relB m m'->(tkP o l m).1=(tkR l (true,m')).1/\((tkP o l m).1=true->relB (tkP o l m).2 (tkR l (true,m')).2)
 | [],m,m',h=>⟨rfl,λ_=>h⟩
 |b::l,m,m',h=>by
  rw [tkP,tkR,<-h b]
  cases hb:aEa m b with
  |true=>
   rw [if_pos rfl];refine⟨?_,λc=>by cases c⟩;rw [(aJj l _ _).1];rfl
  |false=>
   rw [if_neg (by decide)];refine aVk o l _ _ λc=>?_
   rw [aSv,aKy,h c]
   by_cases e:b=c
   ·rw [if_pos (aSe.2 e),dT e,Bool.true_or]
   ·rw [if_neg (λq=>e (aSe.1 q)),qD e,Bool.false_or]
structure SzP (p:Param):Prop where
 nm:p.Name.length<=9223372036854775807
 pl:p.Parts.length<=9223372036854775807
 nl:p.Names.length<=9223372036854775807
 ns: ∀s∈p.Names,s.length<=9223372036854775807
def bF (c:Cell):List fB:=c.Places.flatMap aJ
def rE (p:Param):Int:=if wV p.Name=false then 8 else if dC p.Kind 1 6=true then 7 else if pfM p≠0 then pfM p else if tfM p≠0 then tfM p else if kfM p≠0 then kfM p else if (tkP 0 ((gV p 0).flatMap bF) []).1=false then 5 else if (gV p 0).length=0 then 13 else 0
structure tJ (p:Param):Prop where
 nm:wV p.Name=true
 kd:dC p.Kind 1 6=false
 pt:qN p
 tm:bK p
 pf:pfM p=0
 tf:tfM p=0
 kf:kfM p=0
 cl:(gV p 0).length≠0
 ck:rE p=0
theorem tf_ok {p:Param} (h:tfM p=0):bK p:=by
 unfold tfM at h;split at h;cases h;rename_i a;exact aQa (by simpa using a)
theorem uH {p:Param}(h:rE p=0):tJ p:=by
 have a:=h;unfold rE at h;split at h;cases h;rename_i f;split at h;cases h;rename_i g;split at h;rename_i c;exact absurd h c;rename_i b;split at h;rename_i c;exact absurd h c;rename_i d;split at h;rename_i c;exact absurd h c;rename_i e;split at h;cases h;split at h;cases h;rename_i i;have b:pfM p=0:=by omega
 have d:tfM p=0:=by omega
 have e:kfM p=0:=by omega
 exact⟨by simpa using f,by simpa using g,aNa b,tf_ok d,b,d,e,i,a⟩
theorem aTn {p:Param}{a s:Int}{b n:Nat}{c:Cell}(h:c∈aY p a s b n): ∃t,t<n/\c=Cell.mk a ((b+t:Nat):Int) s (dN p s t):=by
 unfold aY at h;obtain⟨t,d,rfl⟩:=List.mem_map.1 h;exact⟨t,List.mem_range.1 d,rfl⟩
theorem aEz {p:Param}{a:Int}{l:List Int}{c:Cell} (h:c∈cellsS p a l): ∃s t i,s∈l/\t<p.Times.toNat/\c=Cell.mk a i s (dN p s (t:Nat)):=by
 have: ∀(l:List Int) (cs:List Cell),c∈l.foldl (λcs s=>cs++aY p a s cs.length p.Times.toNat) cs->c∈cs\/ ∃s t i,s∈l/\t<p.Times.toNat/\c=Cell.mk a i s (dN p s (t:Nat)):=by
  intro l
  induction l with
  |nil=>intro cs h;exact .inl h
  |cons s l b=>
   intro cs h;rw [List.foldl_cons]at h;rcases b _ h with h|⟨d,t,i,f,g,j⟩
   ·rcases mA.1 h with h|h
    ·exact .inl h
    ·obtain⟨t,k,e⟩:=aTn h;exact .inr ⟨s,t,_,List.mem_cons_self ..,k,e⟩
   ·exact .inr ⟨d,t,i,List.mem_cons_of_mem _ f,g,j⟩
 rcases this l [] h with h|h
 ·cases h
 ·exact h
theorem places_ok {p:Param}(a:qN p){s t:Int}{x:fH}(h:x∈dN p s t):OkP x:=by
 unfold dN at h;obtain⟨y,b,rfl⟩:=List.mem_map.1 h;have:=aLz (a.all y b);unfold OkP aAb;simp only;omega
theorem aIt {p:Param}(a:qN p){b:Int}{c:Cell}(h:c∈gV p b):c.Places.length<=9223372036854775807/\ ∀x∈c.Places,OkP x:=by
 obtain⟨s,t,_,_,_,rfl⟩:=aEz h;refine⟨?_,λx d=>places_ok a d⟩;show(dN p s t).length<=_;unfold dN;rw [List.length_map];have:=a.n8;omega
theorem aF {p:Param}(a:bK p)(b:Int):(gV p b).length<=912:=aHd a b _ (aNq a)
theorem aBr (p:Param)(a:Int):(gV p a).flatMap bF=(gV p 0).flatMap bF/\(gV p a).length=(gV p 0).length:=by
 refine⟨?_,by unfold gV;rw [aBm,aBm]⟩;have: ∀(l:List Int) (cs cs':List Cell),cs.flatMap bF=cs'.flatMap bF->(l.foldl (λcs s=>cs++aY p a s cs.length p.Times.toNat) cs).flatMap bF=(l.foldl (λcs s=>cs++aY p 0 s cs.length p.Times.toNat) cs').flatMap bF:=by
  intro l
  induction l with
  |nil=>intro cs cs' h;exact h
  |cons s l b=>
   intro cs cs' h;rw [List.foldl_cons,List.foldl_cons];refine b _ _ ?_;rw [List.flatMap_append,List.flatMap_append,h]
   congr 1
   unfold aY;rw [List.flatMap_map,List.flatMap_map];rfl
 exact this (dI p) [] [] rfl
theorem aPc {a:Type}(o:Int)(r:Option a)(fin:List (fB×Int)->Option a): ∀(l:List Cell) (i:Nat) (m:List (fB×Int)),kH (λ_ c m=>if (tkP o (bF c) m).1=true then .inl (tkP o (bF c) m).2 else .inr r) fin l i m=if (tkP o (l.flatMap bF) m).1=true then fin (tkP o (l.flatMap bF) m).2 else r
 | [],i,m=>rfl
 |c::l,i,m=>by
  rw [kH,List.flatMap_cons,aQk]
  by_cases h:(tkP o (bF c) m).1=true
  ·rw [if_pos h,if_pos h];exact aPc o r fin l (i+1) _
  ·rw [if_neg h,if_neg h,if_neg h]
theorem par_l {p:Param} (e:SzP p):Feh p=some (rE p):=by
 unfold Feh rE;simp only [aRh,lwi,zC,zK,xJ,nwi,pf_l p e.pl]
 cases wV p.Name with
 |false=>rfl
 |true=>
  simp only [Bool.not_true,zQ,Bool.true_eq_false,if_false];show gI (dC p.Kind 1 6) _ _=_
  cases dC p.Kind 1 6 with
  |true=>rfl
  |false=>
   simp only [zQ,Bool.false_eq_true,if_false,yV]
   by_cases d:pfM p=0
   ·simp only [d,if_true,ne_eq,not_true,if_false]
    by_cases f:tfM p=0
    ·simp only [f,not_true,if_false];rw [kf_l p e.pl e.nl (aNa d),zC]
     by_cases g:kfM p=0
     ·simp only [g,not_true,if_false];have h:=aNa d;have j:=tf_ok f;have a:(gV p 0).length<=9223372036854775807:=Nat.le_trans (aF j 0) (by decide);rw [aOm h j,zC];unfold Fir;rw [aAj (gV p 0) (λ_ c m=>if (tkP 0 (bF c) m).1=true then .inl (tkP 0 (bF c) m).2 else .inr (some 5)) (λ_=>if ((gV p 0).length:Int)=0 then some 13 else some 0) [] a
       (λk _ m c l n=>by
        have o:=aIt h (qS l);simp only [zK,yF n,zU,yS l,zC,fJ n a,take_l 0 c.Places m o.1 o.2];show gI (!(tkP 0 (bF c) m).1) _ (k (_,(tkP 0 (bF c) m).2))=_;rcases tkP 0 (bF c) m with ⟨b,_⟩
        cases b<;>rfl)
       (λk m=>by simp only [zK,yH,zQ]),aPc]
      cases(tkP 0 ((gV p 0).flatMap bF) []).1 with
      |false=>rfl
      |true=>
       simp only [if_true,Bool.true_eq_false,if_false]
       by_cases c:(gV p 0).length=0
       ·rw [if_pos c,if_pos (by omega)]
       ·rw [if_neg c,if_neg (by omega)]
     ·simp only [g,not_false_eq_true,if_true]
    ·simp only [f,not_false_eq_true,if_true]
   ·simp only [d,if_false,ne_eq,not_false_eq_true,if_true]
theorem par_2 {p:Param} (a:SzP p):Fbg p=some (rE p):=by
 unfold Fbg rE;simp only [aSg p.Name a.nm,out2,zC,zK,pf_2 p a.pl]
 cases wV p.Name with
 |false=>rfl
 |true=>
  simp only [Bool.not_true,zQ,Bool.true_eq_false,if_false];show gI (dC p.Kind 1 6) _ _=_
  cases dC p.Kind 1 6 with
  |true=>rfl
  |false=>
   simp only [zQ,Bool.false_eq_true,if_false,yV]
   by_cases d:pfM p=0
   ·simp only [d,ne_eq,not_true,if_false];rw [tf_2 p a.pl (aNa d).all,zC]
    by_cases f:tfM p=0
    ·simp only [f,not_true,if_false];rw [kf_2 p a.pl a.nl a.ns (aNa d),zC]
     by_cases h:kfM p=0
     ·simp only [h,not_true,if_false];have i:=aNa d;have j:=tf_ok f;have g:(gV p 0).length<=9223372036854775807:=Nat.le_trans (aF j 0) (by decide);rw [aIw i j,zC,aNk _ _ g (λc k=>aIt i k),zC];have l:=aVk 0 ((gV p 0).flatMap bF) [] [] (λ_=>rfl);have e:(tkR ((gV p 0).flatMap λc=>c.Places.flatMap aJ) (true,[])).1=(tkP 0 ((gV p 0).flatMap bF) []).1:=l.1.symm;simp only [e]
      cases(tkP 0 ((gV p 0).flatMap bF) []).1 with
      |false=>rfl
      |true=>
       simp only [Bool.not_true,zQ,Bool.true_eq_false,if_false]
       by_cases c:(gV p 0).length=0
       ·rw [if_pos c,if_pos (by omega)]
       ·rw [if_neg c,if_neg (by omega)]
     ·simp only [h,not_false_eq_true,if_true]
    ·simp only [f,not_false_eq_true,if_true]
   ·simp only [d,ne_eq,not_false_eq_true,if_true]
structure SzM (m:Map):Prop where
 pl:m.Params.length<=9223372036854775807
 ps: ∀p∈m.Params,SzP p
theorem aT {c e:Type} (q:Nat->c->Option (Option e)): ∀(l:List c) (i:Nat),
  (∃j x v,l[j]? =some x/\q (i+j) x=some v/\ ∀fin,dB q fin l i=v)\/((∀j x,l[j]? =some x->q (i+j) x=none)/\ ∀fin,dB q fin l i=fin)
 | [],i=> .inr ⟨λj x h=>by simp at h,λ_=>rfl⟩
 |x::l,i=>by
  cases h:q i x with
  |some v=>exact .inl ⟨0,x,v,rfl,h,λfin=>by rw [dB,h]⟩
  |none=>
   rcases aT q l (i+1)with ⟨j,y,v,a,d,f⟩|⟨a,d⟩
   ·refine .inl ⟨j+1,y,v,by simpa using a,by rwa [show i+(j+1)=i+1+j by omega],λfin=>?_⟩;rw [dB,h];exact f fin
   ·refine .inr ⟨λj y b=>?_,λfin=>?_⟩
    ·cases j with
     |zero=>simp at b;subst b;exact h
     |succ j=>have:=a j y (by simpa using b);rwa [show i+(j+1)=i+1+j by omega]
    ·rw [dB,h];exact d fin
def aQh (l:List Param):Nat->Param->Option (Option (Int×Int)):=λi x=>if rE x=0 then(if (l.take i).any (λy=>decide (y.Name=x.Name))=true then some (some ((i:Int),5))else none)else some (some ((i:Int),rE x))
def cntF:Nat->Param->Int->Int ⊕ Option (Int×Int):=λi x s=>if 4000<IntKind.i64.wrap (s+(gV x 0).length)then .inr (some ((i:Int),3))else .inl (IntKind.i64.wrap (s+(gV x 0).length))
def tkF:Nat->Param->List (fB×Int)->List (fB×Int) ⊕ Option (Int×Int):=λi x m=>if (tkP (i:Int) ((gV x 0).flatMap bF) m).1=true then .inl (tkP (i:Int) ((gV x 0).flatMap bF) m).2 else .inr (some ((i:Int),5))
def tkG:Nat->Param->List (Arr 3 Int×Bool)->List (Arr 3 Int×Bool) ⊕ Option (Int×Int):=λi x m=>if (tkR ((gV x 0).flatMap bF) (true,m)).1=true then .inl (tkR ((gV x 0).flatMap bF) (true,m)).2 else .inr (some ((i:Int),5))
theorem chkL1 (m:Map) (a:SzM m) (r:Option (Int×Int)):Ffo m (λ_=>r) (m.Params.length:Int) 0=dB (aQh m.Params) r m.Params 0:=by
 unfold Ffo;refine xU m.Params _ _ a.pl (λk i x b d=>?_) (λk=>by simp only [zK,yH,zQ]);have e:=a.ps x (qS b);simp only [zK,yF d,zU,yS b,zC,fJ d a.pl,par_l e,aCx m.Params (by omega:i<=m.Params.length)];rw [contM_eq _ _ (by rw [List.length_take];have:=a.pl;omega),zC,yV];unfold aQh;by_cases c:rE x=0;rw [if_neg (by simpa using c),if_pos c];cases((m.Params.take i).any λy=>decide (y.Name=x.Name))<;>rfl;rw [if_pos c,if_neg c]
theorem chkR1 (m:Map) (b:SzM m) (r:Option (Int×Int)):Ff2 m (λ_=>r) (m.Params.length:Int) 0=dB (aQh m.Params) r m.Params 0:=by
 unfold Ff2;refine xU m.Params _ _ b.pl (λk i x d e=>?_) (λk=>by simp only [zK,yH,zQ]);have f:=b.ps x (qS d);simp only [zK,xJ,yF e,zU,yS d,zC,fJ e b.pl,par_2 f,aCx m.Params (by omega:i<=m.Params.length)];have a:(m.Params.take i).length<=9223372036854775807:=by rw [List.length_take];have:=b.pl;omega
 unfold Fjf;rw [jQ (m.Params.take i) (λy=>decide (y.Name=x.Name)) (some ((i:Int),5)) (k ((i+1:Nat):Int)) a (λg _ y g1 g2=>by simp only [zK,yF g2,zU,yS g1,zC,fJ g2 a]) (λg=>by simp only [zK,yH,zQ]),yV];unfold aQh;by_cases c:rE x=0;rw [if_neg (by simpa using c),if_pos c];cases((m.Params.take i).any λy=>decide (y.Name=x.Name))<;>rfl;rw [if_pos c,if_neg c]
theorem chkL2 (m:Map)(a:SzM m)(h: ∀p∈m.Params,tJ p)(r:Option (Int×Int)):Ffv m (λ_=>r) (m.Params.length:Int) (0,0)=kH cntF (λ_=>r) m.Params 0 0:=by
 unfold Ffv;refine aNz m.Params cntF (λ_=>r) 0 a.pl (λk _ s x b f=>?_) (λk s=>by simp only [zK,yH,zQ]);have d:=h x (qS b);have hm:=a.ps x (qS b);have g:=aF d.tm 0;have j:(gV x 0).length=(dI x).length*x.Times.toNat:=aBm ..;have l:=d.tm.t1;have e:((dI x).length:Int)*x.Times=((gV x 0).length:Int):=by
  rw [j,Int.natCast_mul]
  congr 1
  omega
 simp only [zK,yF f,zU,yS b,zC,fJ f a.pl,aQx d.tm hm.pl,e,Go.OB.wrap_i64 (by omega: -9223372036854775808<=((gV x 0).length:Int)) (by omega),yV];unfold cntF
 by_cases c:4000<IntKind.i64.wrap (s+(gV x 0).length)
 ·rw [if_pos c,if_pos c]
 ·rw [if_neg c,if_neg c]
theorem chkR3 (m:Map)(a:SzM m)(f: ∀p∈m.Params,tJ p)(r:Option (Int×Int)):Fgq m (λ_=>r) (m.Params.length:Int) (0,0)=kH cntF (λ_=>r) m.Params 0 0:=by
 unfold Fgq;refine aNz m.Params cntF (λ_=>r) 0 a.pl (λk i s x b d=>?_) (λk s=>by simp only [zK,yH,zQ]);have e:=f x (qS b);simp only [zK,yF d,zU,yS b,zC,fJ d a.pl,aIw e.pt e.tm,(aBr x (i:Int)).2,yV];unfold cntF;by_cases c:4000<IntKind.i64.wrap (s+(gV x 0).length);rw [if_pos c,if_pos c];rw [if_neg c,if_neg c]
theorem chkL3 (m:Map)(e:SzM m)(j: ∀p∈m.Params,tJ p)(r:Option (Int×Int)):Fe4 m (λ_=>r) (m.Params.length:Int) (0,[])=kH tkF (λ_=>r) m.Params 0 []:=by
 unfold Fe4;refine aAj m.Params tkF (λ_=>r) [] e.pl (λk i s x f g=>?_) (λk s=>by simp only [zK,yH,zQ]);have d:=j x (qS f);have a:(gV x (i:Int)).length<=9223372036854775807:=Nat.le_trans (aF d.tm _) (by decide);simp only [zK,xJ,yF g,zU,yS f,zC,fJ g e.pl,aOm d.pt d.tm];unfold Fht;rw [aAj (gV x (i:Int)) (λ_ c m=>if (tkP (i:Int) (bF c) m).1=true then .inl (tkP (i:Int) (bF c) m).2 else .inr (some ((i:Int),5))) (λm=>k (((i+1:Nat):Int),m)) s a
  (λk _ m c g1 g2=>by
   have h:=aIt d.pt (qS g1);simp only [zK,yF g2,zU,yS g1,zC,fJ g2 a,take_l _ c.Places m h.1 h.2];show gI (!(tkP (i:Int) (bF c) m).1) _ (k (_,(tkP (i:Int) (bF c) m).2))=_;rcases tkP (i:Int) (bF c) m with ⟨b,_⟩
   cases b<;>rfl)
  (λk m=>by simp only [zK,yH,zQ]),aPc,(aBr x (i:Int)).1]
 unfold tkF
 by_cases c:(tkP (i:Int) ((gV x 0).flatMap bF) s).1=true
 ·rw [if_pos c,if_pos c]
 ·rw [if_neg c,if_neg c]
theorem chkR4 (m:Map)(f:SzM m)(j: ∀p∈m.Params,tJ p)(r:Option (Int×Int)):Fex m (λ_=>r) (m.Params.length:Int) (0,[])=kH tkG (λ_=>r) m.Params 0 []:=by
 unfold Fex;refine aAj m.Params tkG (λ_=>r) [] f.pl (λk i s x g h=>?_) (λk s=>by simp only [zK,yH,zQ]);have a:=j x (qS g);have d:(gV x (i:Int)).length<=9223372036854775807:=Nat.le_trans (aF a.tm _) (by decide);simp only [zK,yF h,zU,yS g,zC,fJ h f.pl,aIw a.pt a.tm,aNk _ _ d (λc l=>aIt a.pt l)];have e:((gV x (i:Int)).flatMap λc=>c.Places.flatMap aJ)=(gV x 0).flatMap bF:=(aBr x (i:Int)).1;rw [e];unfold tkG;rcases tkR ((gV x 0).flatMap bF) (true,s)with ⟨b,_⟩
 cases b<;>rfl
theorem tk_two: ∀(l:List Param) (i:Nat) (m:List (fB×Int)) (m':List (Arr 3 Int×Bool)),relB m m'->
  (∃v:Int×Int,v.2≠0/\0<=v.1/\ ∀r a,kH tkF (λ_=>r) l i m=some v/\kH tkG (λ_=>a) l i m'=some v)\/ ∀r a,kH tkF (λ_=>r) l i m=r/\kH tkG (λ_=>a) l i m'=a
 | [],i,m,m',_=> .inr λr a=>⟨rfl,rfl⟩
 |x::l,i,m,m',h=>by
  have c:=aVk (i:Int) ((gV x 0).flatMap bF) m m' h
  cases hb:(tkP (i:Int) ((gV x 0).flatMap bF) m).1 with
  |false=>
   refine .inl ⟨((i:Int),5),(by show(5:Int)≠0;decide),by omega,λr a=>⟨?_,?_⟩⟩
   ·rw [kH,tkF,if_neg (by rw [hb];decide)]
   ·rw [kH,tkG,if_neg (by rw [<-c.1,hb];decide)]
  |true=>
   rcases tk_two l (i+1) _ _ (c.2 hb)with ⟨v,d,e,b⟩|b
   ·refine .inl ⟨v,d,e,λr a=>⟨?_,?_⟩⟩
    ·rw [kH,tkF,if_pos hb];exact(b r a).1
    ·rw [kH,tkG,if_pos (by rw [<-c.1,hb])];exact(b r a).2
   ·refine .inr λr a=>⟨?_,?_⟩
    ·rw [kH,tkF,if_pos hb];exact(b r a).1
    ·rw [kH,tkG,if_pos (by rw [<-c.1,hb])];exact(b r a).2
theorem aXx: ∀(l:List Param) (i:Nat) (s:Int),0<=s->s<=4000->(∀p∈l,(gV p 0).length<=912)->
  (∃v:Int×Int,v.2≠0/\0<=v.1/\ ∀r,kH cntF (λ_=>r) l i s=some v)\/((∀r,kH cntF (λ_=>r) l i s=r)/\s+((l.map λp=>(gV p 0).length).sum:Nat)<=4000)
 | [],i,s,_,h,_=> .inr ⟨λr=>rfl,by simpa using h⟩
 |x::l,i,s,j,h,d=>by
  have k:=d x (List.mem_cons_self ..);have a:IntKind.i64.wrap (s+(gV x 0).length)=s+(gV x 0).length:=Go.OB.wrap_i64 (by omega) (by omega)
  by_cases c:4000<s+(gV x 0).length
  ·refine .inl ⟨((i:Int),3),(by show(3:Int)≠0;decide),by omega,λr=>?_⟩;rw [kH,cntF,a,if_pos c]
  ·rcases aXx l (i+1) (s+(gV x 0).length) (by omega) (by omega) (λp e=>d p (List.mem_cons_of_mem _ e))with ⟨v,f,g,b⟩|⟨b,_⟩
   ·refine .inl ⟨v,f,g,λr=>?_⟩;rw [kH,cntF,a,if_neg c];exact b r
   ·refine .inr ⟨λr=>?_,?_⟩
    ·rw [kH,cntF,a,if_neg c];exact b r
    ·rw [List.map_cons,List.sum_cons];omega
structure MapOk (m:Map):Prop where
 n:m.Params.length<=200
 v0:0<=m.Version
 v1:m.Version<=2047
 all: ∀p∈m.Params,tJ p
 names: ∀(j:Nat) (x:Param),m.Params[j]? =some x->(m.Params.take j).any (λy=>decide (y.Name=x.Name))=false
 cnt:(m.Params.map λp=>(gV p 0).length).sum<=4000
theorem map_two {m:Map} (d:SzM m): ∃v:Int×Int,Fat m=some v/\Fai m=some v/\(v.2=0->v.1=0/\MapOk m):=by
 unfold Fat Fav Fai;simp only [lwi,out2,zC,zK,xJ,nwi];show ∃v:Int×Int,(gB (gI (dC m.Version 0 2047) _ _) _=_/\gI (dC m.Version 0 2047) _ _=_/\_)
 cases hv:dC m.Version 0 2047 with
 |true=>exact⟨(0,9),rfl,rfl,λh=>by cases h⟩
 |false=>
  rw [zQ,zQ,yV,yV]
  by_cases c2:200<m.Params.length
  ·rw [if_pos (by omega),if_pos (by omega)];exact⟨(0,3),rfl,rfl,λh=>by cases h⟩
  rw [if_neg (by omega),if_neg (by omega),chkL1 m d,chkR1 m d];rcases aT (aQh m.Params) m.Params 0 with ⟨j,x,v,n,e,f⟩|⟨n,f⟩
  ·rw [f,f];unfold aQh at e;split at e
   ·split at e
    ·cases e
     refine⟨(((0+j:Nat):Int),5),?_,rfl,λh=>by cases h⟩;rw [zC,Int.max_eq_left (by omega)]
    ·cases e
   ·rename_i c
    cases e
    refine⟨(((0+j:Nat):Int),rE x),?_,rfl,λh=>absurd h c⟩;rw [zC,Int.max_eq_left (by omega)]
  rw [f,f];have g: ∀(j:Nat) (x:Param),m.Params[j]? =some x->rE x=0/\(m.Params.take j).any (λy=>decide (y.Name=x.Name))=false:=by
   intro j x i;have:=n j x i;unfold aQh at this;split at this
   ·rename_i c;rw [Nat.zero_add]at this;split at this
    ·cases this
    ·rename_i o;exact⟨c,by simpa using o⟩
   ·cases this
  have a: ∀p∈m.Params,tJ p:=by
   intro p l;obtain⟨j,i,rfl⟩:=List.mem_iff_getElem.1 l;exact uH (g j _ (gE i)).1
  rw [chkL2 m d a,chkR3 m d a];rcases aXx m.Params 0 0 (by omega) (by omega) (λp l=>aF (a p l).tm 0)with ⟨v,g1,g2,g3⟩|⟨g3,g4⟩
  ·rw [g3,g3];refine⟨v,?_,rfl,λh=>absurd h g1⟩;rw [zC];show some (max v.1 0,v.2)=_;rw [Int.max_eq_left g2]
  rw [g3,g3,chkL3 m d a,chkR4 m d a];rcases tk_two m.Params 0 [] [] (λ_=>rfl)with ⟨v,g1,g2,g5⟩|g5
  ·rw [(g5 _ none).1,(g5 none _).2];refine⟨v,?_,rfl,λh=>absurd h g1⟩;rw [zC];show some (max v.1 0,v.2)=_;rw [Int.max_eq_left g2]
  ·rw [(g5 _ none).1,(g5 none _).2];have k:=aBi.1 hv;exact⟨(0,0),rfl,rfl,λ_=>⟨rfl,by omega,k.1,k.2,a,λj x i=>(g j x i).2,by omega⟩⟩
def kws:List Str:=[[112,104,97,115,101],[109,111,118,101],[114,117,108,101],[105,102],[111,114],[97,110,100],[116,114,117,101],[102,97,108,115,101],[115,116,101,97,100,121],[110,111,116],[102,111,114],[119,105,116,104,105,110],[99,111,117,110,116],[111,102],[114,105,115,101,115],[115,105,110,99,101]]
theorem ewithin (a b c:Int):Faq a b c=some (decide (b<=a)&&decide (a<=c)):=by
 unfold Faq;simp only [zK,dM,zC]
def isW (s:Str):Bool:=decide (s∈kws)
theorem isWord_eq (s:Str):Fbh s=some (isW s):=by
 unfold Fbh isW kws;simp only [zK,aWw,zC,iteB_id,List.mem_cons,List.not_mem_nil,or_false,Bool.decide_or]
def nmB (c:Int):Bool:=(decide (97<=c)&&decide (c<=122))||(decide (48<=c)&&decide (c<=57))||decide (c=45)
theorem aTh (c:Int):Fbn c=some (nmB c):=by
 unfold Fbn nmB;simp only [zK];cases decide (97<=c)<;>cases decide (c<=122)<;>cases decide (48<=c)<;>cases decide (c<=57)<;>cases decide (c=45)<;>rfl
def aMo:Nat->UInt8->Bool:=λ_ c=> !nmB (c.toNat:Int)
theorem isName_L1 (s:Str) (a:okS s) (k:Unit->Option Bool):Ff7 s k (s.length:Int) 0=if rP aMo s 0=true then some false else k ():=by
 unfold Ff7;rw [xU s (λi c=>if aMo i c=true then some (some false)else none) (k ()) a];exact vF aMo (some false) (k ()) s 0;intro b i c d hi;unfold aMo;simp only [zK];rw [yF hi,zU,aCg d,zC,aTh,zC];cases nmB (c.toNat:Int);rfl;simp only [Bool.not_true,zQ];rw [fJ hi a];rfl;intro b;simp only [zK];rw [yH];rfl
def aFh (s:Str):Bool:=match s with
 | []=>false
 |c::_=>decide (97<=(c.toNat:Int))&&decide ((c.toNat:Int)<=122)
def aMh (s:Str):Bool:=decide (s.length<=30)&&aFh s&& !isW s&& !rP aMo s 0
theorem isName_eq (s:Str)(a:okS s):Fau s=some (aMh s):=by
 unfold Fau aMh;simp only [zK,zC,ewithin,xJ,isName_L1 s a,isWord_eq]
 cases s with
 |nil=>rfl
 |cons c l=>
  have b:byte' (c::l) 0=some (c.toNat:Int):=aCg (i:=0) rfl;have d:decide ((1:Int)<=((c::l).length:Int))=true:=dT (by simp;omega);have e:decide (((c::l).length:Int)<=30)=decide ((c::l).length<=30):=decide_eq_decide.2 (by omega);have f:decide ((c.toNat:Int)<97)= !decide (97<=(c.toNat:Int)):=by rw [<-decide_not];exact decide_eq_decide.2 (by omega)
  have g:decide (122<(c.toNat:Int))= !decide ((c.toNat:Int)<=122):=by rw [<-decide_not];exact decide_eq_decide.2 (by omega)
  rw [b,d,e];simp only [zC,Bool.true_and,f,g,aFh]
  cases decide ((c::l).length<=30)<;>cases decide (97<=(c.toNat:Int))<;>cases decide ((c.toNat:Int)<=122)<;>cases isW (c::l)<;>cases rP aMo (c::l) 0<;>rfl
theorem IsName_eq (s:Str)(a:okS s):Fdh s=some (aMh s):=by
 unfold Fdh;rw [isName_eq s a];rfl
theorem aRc (s:Str):Fch s=some (isW s):=by
 unfold Fch Ffh;simp only [zK,zC,xJ];change Fey s kws (λ_=>some false) 0=_;unfold Fey;rw [xU kws (λ_ x=>if decide (x=s)=true then some (some true)else none) (some false) (by decide)]
 ·rw [vF (λ_ x=>decide (x=s))];have e:rP (λ_ x=>decide (x=s)) kws 0=isW s:=by
   rw [Bool.eq_iff_iff,aTf];unfold isW;simp only [decide_eq_true_eq];constructor
   ·rintro⟨j,x,h,rfl⟩;exact qS h
   ·intro h;obtain⟨j,a⟩:=List.getElem?_of_mem h;exact⟨j,s,a,rfl⟩
  rw [e];cases isW s<;>rfl
 ·intro b _ c d hi;simp only [zK];rw [yF hi,zU,yS d,zC]
  cases decide (c=s)
  ·simp only [zQ];rw [fJ hi (by decide)];rfl
  ·rfl
 ·intro b;simp only [zK];rw [yH];rfl
def badR:Nat->UInt8->Bool:=λi c=> !((decide (97<=(c.toNat:Int))&&decide ((c.toNat:Int)<=122))||(decide (0<(i:Int))&&((decide (48<=(c.toNat:Int))&&decide ((c.toNat:Int)<=57))||decide ((c.toNat:Int)=45))))
theorem aTv (s:Str) (a:okS s) (k:Unit->Option Bool):Fgr s k 0=if rP badR s 0=true then some false else k ():=by
 unfold Fgr;rw [xU s (λi c=>if badR i c=true then some (some false)else none) (k ()) a];exact vF badR (some false) (k ()) s 0;intro b i c d hi;unfold badR;simp only [zK];rw [yF hi,zU,aCg d,zC];rw [fJ hi a];cases decide (97<=(c.toNat:Int))<;>cases decide ((c.toNat:Int)<=122)<;>cases decide (0<(i:Int))<;>cases decide (48<=(c.toNat:Int))<;>cases decide ((c.toNat:Int)<=57)<;>cases decide ((c.toNat:Int)=45)<;>rfl;intro b;simp only [zK];rw [yH];rfl
theorem aUq (s:Str)(a:okS s):Fdq s=some (aMh s):=by
 unfold Fdq aMh;simp only [zK,zC,xJ,aTv s a,aRc]
 cases s with
 |nil=>rfl
 |cons c l=>
  have b:decide (((c::l).length:Int)<=30)=decide ((c::l).length<=30):=decide_eq_decide.2 (by omega);have d:decide ((c::l)≠[])=true:=by simp
  have e:rP badR l (0+1)=rP aMo l (0+1):=aMg l (0+1) λj _ _=>by
   have:decide (0<((0+1+j:Nat):Int))=true:=dT (by omega);unfold badR aMo nmB;rw [this];simp only [Bool.true_and,Bool.or_assoc]
  rw [rP,rP,e,b,d];have f:badR 0 c= !(decide (97<=(c.toNat:Int))&&decide ((c.toNat:Int)<=122)):=by unfold badR;simp
  have g:aMo 0 c= !(aFh (c::l)||(decide (48<=(c.toNat:Int))&&decide ((c.toNat:Int)<=57))||decide ((c.toNat:Int)=45)):=rfl;have h:badR 0 c= !aFh (c::l):=f;rw [g,h]
  cases aFh (c::l)<;>cases rP aMo l (0+1)<;>cases decide ((c::l).length<=30)<;>cases isW (c::l)<;>simp [gI,gB]
end Go.Lf
