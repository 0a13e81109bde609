/- Laws that the claim stands on; no condition beyond those stated. -/
import Derived.Test.YtbjofgmdhbiekaaGreatDoorUP
import Derived.Test.YtbjofgmdhbiekaaGreatDoorPLb
namespace Go.Lf
open Go.RowKit Go.OB
theorem nwi (a n b:Int):(!(decide (a<=n)&&decide (n<=b)))=(decide (n<a)||decide (b<n)):=by
 by_cases h1:a<=n<;>by_cases c:n<=b;simp [h1,c,Int.not_lt.2 h1,Int.not_lt.2 c];simp [h1,c,Int.not_le.1 c];simp [h1,c,Int.not_le.1 h1];simp [h1,c,Int.not_le.1 h1]
theorem lwi (n a b:Int):Fac n a b=some (decide (a<=n)&&decide (n<=b)):=by
 unfold Fac;simp only [zD,dY,zC]
theorem fwi (n a b:Int):Faw n a b=some (decide (a<=n)&&decide (n<=b)):=by
 unfold Faw;simp only [zD,dY,zC]
theorem swi (n a b:Int):Faa n a b=some (decide (a<=n)&&decide (n<=b)):=by
 unfold Faa;simp only [zD,dY,zC]
theorem vwi (n a b:Int):Fbe n a b=some (decide (a<=n)&&decide (n<=b)):=by
 unfold Fbe;simp only [zD,dY,zC]
theorem out2 (n a b:Int):Fae n a b=some (decide (n<a)||decide (b<n)):=by
 unfold Fae;simp only [zD,xM,zC]
theorem aYc (n a b:Int):Fab n a b=some (decide (n<a)||decide (b<n)):=by
 unfold Fab;simp only [zD,xM,zC]
theorem out7 (n a b:Int):Fbw n a b=some (decide (n<a)||decide (b<n)):=by
 unfold Fbw;simp only [zD,xM,zC]
def wU (x:Nat):Bool:=decide (97<=x)&&decide (x<=122)
def uX:Str->Bool
 | []=>false
 |c::t=>decide (t.length<30)&&(wU c.toNat&&t.all λc=>aP c.toNat)
theorem low_nm {x:Nat}(h:wU x=true):aP x=true:=by
 unfold wU at h;unfold aP;rw [h];rfl
theorem aTd (s:Str):Fbj s=some (uX s):=by
 cases s with
 |nil=>rfl
 |cons c t=>
  unfold Fbj uX Fgd;simp only [zD,List.length_cons,show byte' (c::t) 0=some (c.toNat:Int)from aBt (s:=c::t) (i:=0) rfl,zC,xM];have a:decide (((t.length+1:Nat):Int)<1)=false:=qD (by omega);rw [a];simp only [Bool.false_or];have b:(decide ((c.toNat:Int)<97)||decide (122<(c.toNat:Int)))= !wU c.toNat:=by
   unfold wU;have:=nwi 97 (c.toNat:Int) 122;rw [<-this]
   congr 2
   ·exact decide_eq_decide.2 (by omega)
   ·exact decide_eq_decide.2 (by omega)
  rw [Bool.or_assoc,b];have d:(!(c::t).any λc=> !aP c.toNat)=(c::t).all λc=>aP c.toNat:=by
   rw [List.any_eq_not_all_not];simp
  rw [d,List.all_cons];have e:decide (30<((t.length+1:Nat):Int))= !decide (t.length<30):=by
   by_cases h:t.length<30
   ·rw [dT h];exact qD (by omega)
   ·rw [qD h];exact dT (by omega)
  rw [e]
  cases h1:decide (t.length<30)with
  |false=>rfl
  |true=>
   cases h2:wU c.toNat with
   |false=>rfl
   |true=>rw [low_nm h2];rfl
theorem aSp (s:Str) (d:s.length<=9223372036854775807):Fc6 s=some (uX s):=by
 unfold Fc6 Fka;rw [yH];rw [xQ s (λi c=>if (!(wU c.toNat||(decide (0<i)&&aP c.toNat)))=true then some (some false)else none) (some (decide (1<=(s.length:Int))&&decide ((s.length:Int)<=30))) d]
 ·rw [tJ]
  cases s with
  |nil=>rfl
  |cons c t=>
   have e:rC (λi (c:UInt8)=> !(wU c.toNat||(decide (0<i)&&aP c.toNat))) (c::t) 0= !(wU c.toNat&&t.all λc=>aP c.toNat):=by
    rw [rC];have f: ∀(l:List UInt8) (i:Nat),rC (λi (c:UInt8)=> !(wU c.toNat||(decide (0<i)&&aP c.toNat))) l (i+1)= !(l.all λc=>aP c.toNat):=by
     intro l
     induction l with
     |nil=>intro i;rfl
     |cons x l g=>
      intro i;rw [rC,g,List.all_cons];have:(wU x.toNat||(decide (0<i+1)&&aP x.toNat))=aP x.toNat:=by
       rw [dT (Nat.succ_pos i),Bool.true_and]
       cases h:wU x.toNat with
       |false=>rfl
       |true=>rw [low_nm h];rfl
      rw [this]
      cases aP x.toNat<;>rfl
    rw [f];simp only [Nat.lt_irrefl,decide_false,Bool.false_and,Bool.or_false]
    cases wU c.toNat<;>rfl
   rw [e,show uX (c::t)=(decide (t.length<30)&&(wU c.toNat&&t.all λc=>aP c.toNat))from rfl];have a:decide (1<=(((c::t).length:Nat):Int))=true:=dT (by rw [List.length_cons];omega);have b:decide ((((c::t).length:Nat):Int)<=30)=decide (t.length<30):=decide_eq_decide.2 (by rw [List.length_cons];omega);rw [a,b]
   cases wU c.toNat<;>cases(t.all λc=>aP c.toNat)<;>cases decide (t.length<30)<;>rfl
 ·intro k i c j hi;simp only [zD,yD hi,zT,aBt j,zC,dY];have a:(decide (97<=(c.toNat:Int))&&decide ((c.toNat:Int)<=122))=wU c.toNat:=by
   unfold wU;congr 1<;>exact decide_eq_decide.2 (by omega)
  have b:decide (0<(i:Int))=decide (0<i):=decide_eq_decide.2 (by omega);rw [a,b];have m:gJ (decide (48<=(c.toNat:Int))&&decide ((c.toNat:Int)<=57)) (some false) (some !decide ((c.toNat:Int)=45))=some !((decide (48<=c.toNat)&&decide (c.toNat<=57))||decide (c.toNat=45)):=by
   have n:decide (48<=(c.toNat:Int))=decide (48<=c.toNat):=decide_eq_decide.2 (by omega);have a2:decide ((c.toNat:Int)<=57)=decide (c.toNat<=57):=decide_eq_decide.2 (by omega);have a3:decide ((c.toNat:Int)=45)=decide (c.toNat=45):=decide_eq_decide.2 (by omega);rw [n,a2,a3]
   cases(decide (48<=c.toNat)&&decide (c.toNat<=57))<;>rfl
  rw [m,fJ hi d];have o:aP c.toNat=(wU c.toNat||((decide (48<=c.toNat)&&decide (c.toNat<=57))||decide (c.toNat=45))):=by
   unfold aP wU;rw [Bool.or_assoc]
  rw [o];generalize wU c.toNat=b1;generalize ((decide (48<=c.toNat)&&decide (c.toNat<=57))||decide (c.toNat=45))=b2;generalize decide (0<i)=b3
  cases b1<;>cases b2<;>cases b3<;>rfl
 ·intro k;simp only [zD,yE,zM,dY,zC]
theorem yR {b c:Type}{body:(b->Option c)->b->Option c}(a:Nat->b)(n:Nat){g0:b}{r:Option c}(d:n<=9223372036854775807)(e:g0=a 0)
    (h: ∀k i,i<n->body k (a i)=k (a (i+1)))(f: ∀k,body k (a n)=r):gZ body g0=r:=by
 subst e;have:=loopO_at (body:=body) a (List.replicate n ()) r (by simpa using d) (λk i _ _ hi=>h k i (by simpa using hi)) (λk=>by rw [List.length_replicate];exact f k);exact this
theorem bD {a:Type}{l:List a}{i:Nat}{x:a}(h:l[i]? =some x):l.take (i+1)=l.take i++[x]:=by
 rw [List.take_add_one,h];rfl
def aLx {a:Type}(p:a->Bool):List a->Nat->Int
 | [],_=> -1
 |x::l,i=>if p x=true then(i:Int)else aLx p l (i+1)
theorem rP {a:Type}(p:a->Bool): ∀(l:List a) (i:Nat),decide (0<=aLx p l i)=l.any p
 | [],_=>rfl
 |x::l,i=>by
  rw [aLx,List.any_cons]
  cases h:p x with
  |true=>rw [if_pos rfl,Bool.true_or];exact dT (by omega)
  |false=>rw [if_neg (by decide),Bool.false_or];exact rP p l (i+1)
theorem jY {a:Type}{body:(Int->Option Int)->Int->Option Int}(l:List a)(p:a->Bool)(b:l.length<=9223372036854775807)
  (h: ∀k (i:Nat) x,l[i]? =some x->i<l.length->body k (i:Int)=gJ (p x) (some (i:Int)) (k ((i+1:Nat):Int)))(c: ∀k,body k (l.length:Int)=some (-1)):gZ body 0=some (aLx p l 0):=by
 rw [xQ l (λi x=>if p x=true then some (some (i:Int))else none) (some (-1)) b (λk i x h1 d=>by rw [h k i x h1 d];cases p x<;>rfl) c];have: ∀(l:List a) (i:Nat),dI (λi x=>if p x=true then some (some (i:Int))else none) (some (-1)) l i=some (aLx p l i):=by
  intro l
  induction l with
  |nil=>intro i;rfl
  |cons x l e=>
   intro i;rw [dI,aLx]
   cases p x with
   |true=>rfl
   |false=>exact e (i+1)
 exact this l 0
theorem contI_eq (l:List Int)(c:Int)(a:l.length<=9223372036854775807):Fd8 l c=some (l.any λy=>decide (c=y)):=by
 unfold Fd8 Ffm Fij;rw [yH,zD,jY l (λy=>decide (c=y)) a (λk _ _ h1 b=>by simp only [zD,yD b,zT,yO h1,zC,fJ b a]) (λk=>by simp only [zD,yE,zM]),zC,zD,rP]
theorem contS_eq (l:List Str)(c:Str)(a:l.length<=9223372036854775807):Fan l c=some (l.any λy=>decide (c=y)):=by
 unfold Fan Fct Fir;rw [yH,zD,jY l (λy=>decide (c=y)) a (λk _ _ h1 b=>by simp only [zD,yD b,zT,yO h1,zC,fJ b a]) (λk=>by simp only [zD,yE,zM]),zC,zD,rP]
theorem contM_eq (l:List Param)(c:Param)(a:l.length<=9223372036854775807):Fdz l c=some (l.any λy=>decide (y.Name=c.Name)):=by
 unfold Fdz Ff0 Fhy;rw [yH,zD,jY l (λy=>decide (y.Name=c.Name)) a (λk _ _ h1 b=>by simp only [zD,yD b,zT,yO h1,zC,fJ b a,Ff6]) (λk=>by simp only [zD,yE,zM]),zC,zD,rP]
theorem contP_eq (l:List Part)(c:Int)(a:l.length<=9223372036854775807):Fcs l c=some (l.any λy=>decide (16<=IntKind.i64.wrap (c+y.Frame))):=by
 unfold Fcs Fee Fhv;rw [yH,zD,jY l (λy=>decide (16<=IntKind.i64.wrap (c+y.Frame))) a (λk _ _ h1 b=>by simp only [zD,yD b,zT,yO h1,zC,fJ b a,Fgy]) (λk=>by simp only [zD,yE,zM]),zC,zD,rP]
theorem jL {a b:Type}{body:(Int->Option b)->Int->Option b}(l:List a)(p:a->Bool)(r fin:Option b)(c:l.length<=9223372036854775807)
  (h: ∀k (i:Nat) x,l[i]? =some x->i<l.length->body k (i:Int)=gJ (p x) r (k ((i+1:Nat):Int)))(d: ∀k,body k (l.length:Int)=fin):gZ body 0=gJ (l.any p) r fin:=by
 rw [xQ l (λ_ x=>if p x=true then some r else none) fin c (λk i x h1 e=>by rw [h k i x h1 e];cases p x<;>rfl) d];have: ∀(l:List a) (i:Nat),dI (λ_ x=>if p x=true then some r else none) fin l i=gJ (l.any p) r fin:=by
  intro l
  induction l with
  |nil=>intro i;rfl
  |cons x l f=>
   intro i;rw [dI,List.any_cons]
   cases p x with
   |true=>rfl
   |false=>exact f (i+1)
 exact this l 0
theorem aOi {e b:Type}{body:(Int->Option b)->Int->Option b}(l:List e)(p:e->Bool)(r fin:Option b)(g:l.length<=9223372036854775807)
  (h: ∀k (i:Nat) x,l[i]? =some x->i<l.length->body k (i:Int)=gJ (p x) r (k ((i+1:Nat):Int)))(j:l.any p=false-> ∀k,body k (l.length:Int)=fin):gZ body 0=gJ (l.any p) r fin:=by
 have c: ∀(d i n:Nat),i+d=l.length->d<n->(l.take i).any p=false->kC body n (i:Int)=gJ (l.any p) r fin:=by
  intro d
  induction d with
  |zero=>
   intro i n h1 o a;obtain⟨m,rfl⟩: ∃m,n=m+1:=⟨n-1,by omega⟩;obtain rfl:i=l.length:=by omega
   rw [List.take_length]at a;rw [kC,j a,a];rfl
  |succ d q=>
   intro i n h1 o a;obtain⟨m,rfl⟩: ∃m,n=m+1:=⟨n-1,by omega⟩;have hi:i<l.length:=by omega
   have f:l[i]? =some l[i]:=gE hi;rw [kC,h _ i _ f hi]
   cases hp:p l[i]with
   |true=>
    have:l.any p=true:=List.any_eq_true.2 ⟨l[i],List.getElem_mem hi,hp⟩;rw [this];rfl
   |false=>
    refine q (i+1) m (by omega) (by omega) ?_;rw [bD f,List.any_append,a,List.any_cons,hp];rfl
 exact c l.length 0 FU (by omega) (aLo g) rfl
def nD (l:List Part):Int:=l.foldl (λs x=>IntKind.i64.wrap (s+x.Bits)) 0
theorem aOf {b a σ:Type}{body:(σ×Int->Option a)->σ×Int->Option a}(l:List b)(f:σ->b->σ)(fin:σ->Option a)(s:σ)(c:l.length<=9223372036854775807)
  (h: ∀k (i:Nat) s x,l[i]? =some x->i<l.length->body k (s,(i:Int))=k (f s x,((i+1:Nat):Int)))(d: ∀k s,body k (s,(l.length:Int))=fin s):gZ body (s,0)=fin (l.foldl f s):=
 aMa (λ(i:Nat) (s:σ)=>(s,(i:Int))) l f fin c h d s
theorem aQq (p:Param)(a:p.Parts.length<=9223372036854775807):Fat p=some (nD p.Parts):=by
 unfold Fat Fht;rw [zD,aOf p.Parts (λs x=>IntKind.i64.wrap (s+x.Bits)) (λs=>some s) 0 a (λk _ s x h1 b=>by simp only [zD,yD b,zT,yO h1,zC,fJ b a]) (λk s=>by simp only [zD,yE,zM])];rfl
theorem aQt (p:Param)(a:p.Parts.length<=9223372036854775807):Fbz p=some (nD p.Parts):=aQq p a
def dH (n a b:Int):Bool:=decide (n<a)||decide (b<n)
theorem pF {n a b:Int}:dH n a b=false↔a<=n/\n<=b:=by
 unfold dH;simp only [Bool.or_eq_false_iff,decide_eq_false_iff_not];omega
def kM (x:Part):Bool:=((dH x.Frame 0 15||dH x.Word 4 60)||dH x.Low 0 10)||dH x.Bits 1 (IntKind.i64.wrap (11-x.Low))
def pfM (p:Param):Int:=if p.Parts.length=0 then 13 else if 8<p.Parts.length then 3 else if p.Parts.any kM=true then 9 else if 40<nD p.Parts then 3 else 0
theorem pf_2 (p:Param) (a:p.Parts.length<=9223372036854775807):Ffj p=some (pfM p):=by
 unfold Ffj pfM Fi9;have c:((8:Int)<(p.Parts.length:Int))↔8<p.Parts.length:=by omega
 have d:((p.Parts.length:Int)=0)↔p.Parts.length=0:=by omega
 repeat (first |rw [zD]|rw [yH]|rw [zC])
 rw [jL p.Parts kM (some 9) (if 40<nD p.Parts then some 3 else some 0) a]
 ·simp only [yS,c,d];split
  ·rfl
  ·split
   ·rfl
   ·cases p.Parts.any kM with
    |true=>rfl
    |false=>simp only [zM,Bool.false_eq_true,if_false];split<;>rfl
 ·intro k _ _ h1 b;simp only [zD,yD b,zT,yO h1,zC,fJ b a,out2,xM];rfl
 ·intro k;simp only [zD,yE,zM,aQt p a,zC,yS]
theorem aMc {x:Part}(h:kM x=false):0<=x.Frame/\x.Frame<=15/\4<=x.Word/\x.Word<=60/\0<=x.Low/\x.Low<=10/\1<=x.Bits/\x.Low+x.Bits<=11:=by
 unfold kM at h;simp only [Bool.or_eq_false_iff,pF]at h;obtain⟨⟨⟨h1,_⟩,_⟩,a⟩:=h;rw [Go.OB.wrap_i64 (by omega) (by omega)]at a;omega
def tK (p:Param):Bool:= !(decide (p.Every=1)||(decide (p.Every=2)||(decide (p.Every=4)||(decide (p.Every=8)||decide (p.Every=16)))))||(dH p.First 0 (p.Every-1)||(dH p.Times 1 57||(decide (p.Step<0)|| !(decide (p.Step=0)==decide (p.Times=1)))))
def rF (p:Param)(x:Part):Bool:=decide (57<p.Step)||decide (60<x.Word+(p.Times-1)*p.Step)
def tfM (p:Param):Int:=if tK p=true then 9 else if p.Parts.any (λx=>rF p x)=true then 9 else 0
structure bP (p:Param):Prop where
 ev:p.Every=1\/p.Every=2\/p.Every=4\/p.Every=8\/p.Every=16
 f0:0<=p.First
 f1:p.First<p.Every
 t1:1<=p.Times
 t2:p.Times<=57
 s0:0<=p.Step
 s1:p.Step=0↔p.Times=1
theorem aRo {p:Param}(h:tK p=false):bP p:=by
 unfold tK at h;simp only [Bool.or_eq_false_iff,pF,Bool.not_eq_false',Bool.or_eq_true,decide_eq_true_eq,decide_eq_false_iff_not,beq_iff_eq,decide_eq_decide]at h;obtain⟨h1,⟨a,_⟩,⟨b,c⟩,_,d⟩:=h;exact⟨h1,a,by omega,b,c,by omega,d⟩
theorem every_l (n:Int):([1,2,4,8,16]:List Int).any (λy=>decide (n=y))=(decide (n=1)||(decide (n=2)||(decide (n=4)||(decide (n=8)||decide (n=16))))):=by
 simp only [List.any_cons,List.any_nil,Bool.or_false]
theorem prod_le {a b:Int}(h1:0<=a)(d:a<=56)(c:0<=b)(e:b<=60):0<=a*b/\a*b<=3360:=by
 refine⟨Int.mul_nonneg h1 c,?_⟩;have:=Int.mul_le_mul d e c (by omega:(0:Int)<=56);omega
structure qB (p:Param):Prop where
 n1:1<=p.Parts.length
 n8:p.Parts.length<=8
 all: ∀x∈p.Parts,kM x=false
 sum:nD p.Parts<=40
theorem aNj {p:Param} (h:pfM p=0):qB p:=by
 unfold pfM at h;split at h
 ·cases h
 ·split at h
  ·cases h
  ·split at h
   ·cases h
   ·split at h
    ·cases h
    ·rename_i h1 _ a _;refine⟨by omega,by omega,λx b=>?_,by omega⟩
     cases hb:kM x with
     |false=>rfl
     |true=>exact absurd (List.any_eq_true.2 ⟨x,b,hb⟩) a
theorem aZr (p:Param):(!(decide (p.Every=1)||(decide (p.Every=2)||(decide (p.Every=4)||(decide (p.Every=8)||decide (p.Every=16)))))||(decide (p.First<0)||decide (IntKind.i64.wrap (p.Every-1)<p.First))||(decide (p.Times<1)||decide (57<p.Times))||decide (p.Step<0)|| !(decide (p.Step=0)==decide (p.Times=1)))=tK p:=by
 unfold tK dH
 by_cases a:(decide (p.Every=1)||(decide (p.Every=2)||(decide (p.Every=4)||(decide (p.Every=8)||decide (p.Every=16)))))=true
 ·have:IntKind.i64.wrap (p.Every-1)=p.Every-1:=by
   simp only [Bool.or_eq_true,decide_eq_true_eq]at a;exact Go.OB.wrap_i64 (by omega) (by omega)
  rw [this];simp only [Bool.or_assoc]
 ·rw [Bool.not_eq_true]at a;rw [a];rfl
theorem aGj {a:Type}{p q:a->Bool}{l:List a}(h: ∀x∈l,p x=q x):l.any p=l.any q:=by
 rw [Bool.eq_iff_iff,List.any_eq_true,List.any_eq_true];constructor<;>rintro⟨x,h1,_⟩;exact⟨x,h1,by rwa [<-h x h1]⟩;exact⟨x,h1,by rwa [h x h1]⟩
theorem aVj {p:Param}{x:Part} (a:bP p) (b:kM x=false):(decide (60<p.Step)||decide (60<IntKind.i64.wrap (x.Word+IntKind.i64.wrap (IntKind.i64.wrap (p.Times-1)*p.Step))))=rF p x:=by
 have d:=aMc b;have t1:=a.t1;have t2:=a.t2;unfold rF;rw [Go.OB.wrap_i64 (by omega: -9223372036854775808<=p.Times-1) (by omega)]
 by_cases c:p.Step<=60
 ·have e:=prod_le (by omega:0<=p.Times-1) (by omega) a.s0 c;rw [Go.OB.wrap_i64 (n:=(p.Times-1)*p.Step) (by omega) (by omega),Go.OB.wrap_i64 (by omega) (by omega)]
  by_cases c1:57<p.Step
  ·have:1<p.Times:=by have:=a.s1;omega
   have f:p.Step<=(p.Times-1)*p.Step:=by
    have:=Int.mul_le_mul_of_nonneg_right (by omega:(1:Int)<=p.Times-1) a.s0;omega
   rw [dT c1,dT (by omega:60<x.Word+(p.Times-1)*p.Step)];simp
  ·rw [qD c1,qD (by omega: ¬60<p.Step)]
 ·rw [dT (by omega:60<p.Step),dT (by omega:57<p.Step)];rfl
theorem last_2 {p:Param}{x:Part} (a:bP p) (b:kM x=false):((decide (1<p.Times)&&decide (57<p.Step))||decide (60<IntKind.i64.wrap (x.Word+IntKind.i64.wrap (IntKind.i64.wrap (p.Times-1)*p.Step))))=rF p x:=by
 rw [<-aVj a b];have c:=aMc b;have t1:=a.t1;have t2:=a.t2;by_cases c1:57<p.Step;have h1:1<p.Times:=by have:=a.s1;omega
 rw [aVj a b];unfold rF;rw [dT c1,dT h1];rfl;rw [qD c1,qD (by omega: ¬60<p.Step),Bool.and_false]
theorem pf_l (p:Param) (b:p.Parts.length<=9223372036854775807):Fdo p=some (if pfM p=0 then tfM p else pfM p):=by
 unfold Fdo Fkx;have e:((8:Int)<(p.Parts.length:Int))↔8<p.Parts.length:=by omega
 have f:((p.Parts.length:Int)=0)↔p.Parts.length=0:=by omega
 repeat (first |rw [zD]|rw [yH]|rw [zC])
 simp only [yS,e,f]
 by_cases c1:p.Parts.length=0
 ·rw [if_pos c1,show pfM p=13 by unfold pfM;rw [if_pos c1]];rfl
 rw [if_neg c1]
 by_cases c2:8<p.Parts.length
 ·rw [if_pos c2,show pfM p=3 by unfold pfM;rw [if_neg c1,if_pos c2]];rfl
 rw [if_neg c2];rw [aOi p.Parts kM (some 9) (if 40<nD p.Parts then some 3 else some (tfM p)) b]
 ·cases c3:p.Parts.any kM with
  |true=>rw [show pfM p=9 by unfold pfM;rw [if_neg c1,if_neg c2,if_pos c3]];rfl
  |false=>
   rw [zM]
   by_cases c4:40<nD p.Parts
   ·rw [if_pos c4,show pfM p=3 by unfold pfM;rw [if_neg c1,if_neg c2,c3,if_neg (by decide),if_pos c4]];rfl
   ·rw [if_neg c4,show pfM p=0 by unfold pfM;rw [if_neg c1,if_neg c2,c3,if_neg (by decide),if_neg c4]];rfl
 ·intro k i x h1 c;simp only [zD,yD c,zT,yO h1,zC,fJ c b,lwi,xM,nwi];rfl
 ·intro c3 k;have a: ∀x∈p.Parts,kM x=false:=λx d=>by
   cases hb:kM x with
   |false=>rfl
   |true=>rw [List.any_eq_true.2 ⟨x,d,hb⟩]at c3;cases c3
  simp only [zD,yE,zM,aQq p b,zC,yS]
  by_cases c4:40<nD p.Parts
  ·rw [if_pos c4,if_pos c4]
  rw [if_neg c4,if_neg c4];simp only [contI_eq _ _ (by decide:([1,2,4,8,16]:List Int).length<=9223372036854775807),zC,lwi,nwi,xM,every_l];have g:=aZr p;rw [g]
  cases hb:tK p with
  |true=>rw [tfM,hb];rfl
  |false=>
   rw [zM];have h:=aRo hb;unfold Fko;rw [jL p.Parts (λx=>decide (60<p.Step)||decide (60<IntKind.i64.wrap (x.Word+IntKind.i64.wrap (IntKind.i64.wrap (p.Times-1)*p.Step)))) (some 9) (some 0) b]
   ·rw [tfM,hb,aGj (λx d=>aVj h (a x d)),if_neg (by decide)]
    cases(p.Parts.any λx=>rF p x)<;>rfl
   ·intro k i x h1 c;simp only [zD,yD c,zT,yO h1,zC,fJ c b,xM]
   ·intro k;simp only [zD,yE,zM]
theorem tf_2 (p:Param) (c:p.Parts.length<=9223372036854775807) (a: ∀x∈p.Parts,kM x=false):Feq p=some (tfM p):=by
 unfold Feq;simp only [zD,zC,out2,xM];have e:(gJ (decide (p.Every=1)) (some (decide (p.Every=1))) (gJ (decide (p.Every=2)) (some (decide (p.Every=2))) (gJ (decide (p.Every=4)) (some (decide (p.Every=4))) (gJ (decide (p.Every=8)) (some (decide (p.Every=8))) (some (decide (p.Every=16)))))))=some (decide (p.Every=1)||(decide (p.Every=2)||(decide (p.Every=4)||(decide (p.Every=8)||decide (p.Every=16))))):=by
  simp only [aZh]
 rw [e,zC];have b:=aZr p
 cases hE:(decide (p.Every=1)||(decide (p.Every=2)||(decide (p.Every=4)||(decide (p.Every=8)||decide (p.Every=16)))))with
 |false=>
  rw [hE]at b;rw [zM,tfM,<-b];rfl
 |true=>
  rw [hE]at b;simp only [Bool.not_true,Bool.false_or]at b;rw [zT,b]
  cases hb:tK p with
  |true=>rw [tfM,hb];rfl
  |false=>
   rw [zM,yH];have f:=aRo hb;unfold Fji;rw [jL p.Parts (λx=>(decide (1<p.Times)&&decide (57<p.Step))||decide (60<IntKind.i64.wrap (x.Word+IntKind.i64.wrap (IntKind.i64.wrap (p.Times-1)*p.Step)))) (some 9) (some 0) c]
   ·rw [tfM,hb,aGj (λx g=>last_2 f (a x g)),if_neg (by decide)]
    cases(p.Parts.any λx=>rF p x)<;>rfl
   ·intro k _ x h1 d;simp only [zD,yD d,zT,yO h1,zC,fJ d c,xM,dY]
   ·intro k;simp only [zD,yE,zM]
def kcM (K B:Int):Bool:=((decide (K=4)&&decide (B.tmod 4≠0))||(decide (K=5)&&decide (B≠1)))||((decide (K=2)||decide (K=3))&&decide (B=1))
def aXo:List Str->Int:=λl=>match dI (λi x=>if uX x=true then(if (l.take i).any (λy=>decide (x=y))=true then some (some 5)else none)else some (some 8)) (some 0) l 0 with
 |some n=>n
 |none=>0
def kfM (p:Param):Int:=if kcM p.Kind (nD p.Parts)=true then 2 else if p.Kind≠6 then(if 0<p.Names.length then 2 else 0)else if p.Names.length=0 then 13 else if 64<p.Names.length\/(2:Int)^(nD p.Parts).toNat<p.Names.length then 3 else aXo p.Names
theorem aOk (l:List Str):dI (λi x=>if uX x=true then(if (l.take i).any (λy=>decide (x=y))=true then some (some (5:Int))else none)else some (some 8)) (some 0) l 0=some (aXo l):=by
 have: ∀(m:List Str) (i:Nat),∃n,dI (λi x=>if uX x=true then(if (l.take i).any (λy=>decide (x=y))=true then some (some (5:Int))else none)else some (some 8)) (some 0) m i=some n:=by
  intro m
  induction m with
  |nil=>intro i;exact⟨0,rfl⟩
  |cons x m c=>
   intro i;rw [dI]
   by_cases h1:uX x=true
   ·rw [if_pos h1]
    by_cases a:(l.take i).any (λy=>decide (x=y))=true
    ·rw [if_pos a];exact⟨5,rfl⟩
    ·rw [if_neg a];exact c (i+1)
   ·rw [if_neg h1];exact⟨8,rfl⟩
 obtain⟨n,b⟩:=this l 0;rw [b,aXo,b]
theorem aIx: ∀(l:List Part) (s:Int),(∀x∈l,kM x=false)->0<=s->s+11*l.length<=1000->l.foldl (λs x=>IntKind.i64.wrap (s+x.Bits)) s=s+(l.map Part.Bits).sum/\0<=(l.map Part.Bits).sum/\(l.map Part.Bits).sum<=11*l.length
 | [],s,_,_,_=>by simp
 |x::l,s,h,b,h1=>by
  have c:=aMc (h x (List.mem_cons_self ..));rw [List.length_cons]at h1;rw [List.foldl_cons,Go.OB.wrap_i64 (by omega) (by omega)];have:=aIx l (s+x.Bits) (λy a=>h y (List.mem_cons_of_mem _ a)) (by omega) (by omega);rw [this.1,List.map_cons,List.sum_cons,List.length_cons];omega
theorem aLt {p:Param}(h:qB p):1<=nD p.Parts:=by
 have h1:=h.n1;have a:=h.n8;have:=aIx p.Parts 0 h.all (by omega) (by omega);unfold nD;rw [this.1]
 cases hp:p.Parts with
 |nil=>rw [hp]at h1;simp at h1
 |cons x l=>
  have c:=aMc (h.all x (by rw [hp];exact List.mem_cons_self ..));have d:=aIx l 0 (λy b=>h.all y (by rw [hp];exact List.mem_cons_of_mem _ b)) (by omega) (by rw [hp]at a;simp at a;omega);rw [List.map_cons,List.sum_cons];omega
theorem shl_1 {n:Int}(a:0<=n)(h:n<=40):jS .i64 1 n=some ((2:Int)^n.toNat):=by
 unfold jS;have e:(IntKind.i64.bits:Int)=64:=rfl;rw [if_pos ⟨a,by rw [e];omega⟩];have h1:(2:Int)^n.toNat<=2^40:=by
  have:(2:Nat)^n.toNat<=2^40:=Nat.pow_le_pow_right (by decide) (by omega)
  exact_mod_cast this
 have b:(0:Int)<=2^n.toNat:=Int.pow_nonneg (by decide);rw [Int.one_mul,Go.OB.wrap_i64 (by omega) (by omega)]
theorem rem_4 (n:Int):kW n 4=some (n.tmod 4):=by unfold kW;rw [if_neg (by decide)]
theorem kf_l (p:Param) (g:p.Parts.length<=9223372036854775807) (d:p.Names.length<=9223372036854775807) (e:qB p):Fd6 p=some (kfM p):=by
 have h:=aLt e;have b:=e.sum;unfold Fd6 kfM;simp only [aQq p g,rem_4,shl_1 (by omega:0<=nD p.Parts) b,zC,zD,yH,dY,xM];show gJ (kcM p.Kind (nD p.Parts)) _ _=_
 cases kcM p.Kind (nD p.Parts)with
 |true=>rfl
 |false=>
  rw [zM,if_neg (by decide),yS]
  by_cases a:p.Kind≠6
  ·rw [if_pos a,if_pos a,yS]
   by_cases c:0<p.Names.length
   ·rw [if_pos c,if_pos (by omega)]
   ·rw [if_neg c,if_neg (by omega)]
  rw [if_neg a,if_neg a,yS]
  by_cases c0:p.Names.length=0
  ·rw [if_pos c0,if_pos (by omega)]
  rw [if_neg c0,if_neg (by omega)]
  by_cases c1:64<p.Names.length\/(2:Int)^(nD p.Parts).toNat<p.Names.length
  ·rw [if_pos c1];have:(decide (64<(p.Names.length:Int))||decide ((2:Int)^(nD p.Parts).toNat<(p.Names.length:Int)))=true:=by
    rw [Bool.or_eq_true,decide_eq_true_eq,decide_eq_true_eq];omega
   rw [this];rfl
  rw [if_neg c1];have:(decide (64<(p.Names.length:Int))||decide ((2:Int)^(nD p.Parts).toNat<(p.Names.length:Int)))=false:=by
   rw [Bool.or_eq_false_iff,decide_eq_false_iff_not,decide_eq_false_iff_not];omega
  rw [this,zM,<-aOk];unfold Fih;refine xQ p.Names _ _ d (λk i x h1 f=>?_) (λk=>by simp only [zD,yE,zM]);simp only [zD,yD f,zT,yO h1,zC,fJ f d,aTd,aCb p.Names (by omega:i<=p.Names.length)]
  cases uX x with
  |false=>rfl
  |true=>
   rw [if_pos rfl,contS_eq _ _ (by rw [List.length_take];omega)]
   cases((p.Names.take i).any λy=>decide (x=y))<;>rfl
theorem kf_2 (p:Param) (h:p.Parts.length<=9223372036854775807) (e:p.Names.length<=9223372036854775807) (l: ∀s∈p.Names,s.length<=9223372036854775807) (f:qB p):Fhh p=some (kfM p):=by
 have n:=aLt f;have d:=f.sum;unfold Fhh kfM;simp only [aQt p h,rem_4,shl_1 (by omega:0<=nD p.Parts) d,zC,zD,yH,dY,xM];show gJ (kcM p.Kind (nD p.Parts)) _ _=_
 cases kcM p.Kind (nD p.Parts)with
 |true=>rfl
 |false=>
  rw [zM,if_neg (by decide),yS]
  by_cases b:p.Kind≠6
  ·rw [if_pos b,if_pos b,yS]
   by_cases c:0<p.Names.length
   ·rw [if_pos c,if_pos (by omega)]
   ·rw [if_neg c,if_neg (by omega)]
  rw [if_neg b,if_neg b,yS]
  by_cases c0:p.Names.length=0
  ·rw [if_pos c0,if_pos (by omega)]
  rw [if_neg c0,if_neg (by omega)]
  by_cases c1:64<p.Names.length\/(2:Int)^(nD p.Parts).toNat<p.Names.length
  ·rw [if_pos c1];have:(decide (64<(p.Names.length:Int))||decide ((2:Int)^(nD p.Parts).toNat<(p.Names.length:Int)))=true:=by
    rw [Bool.or_eq_true,decide_eq_true_eq,decide_eq_true_eq];omega
   rw [this];rfl
  rw [if_neg c1];have:(decide (64<(p.Names.length:Int))||decide ((2:Int)^(nD p.Parts).toNat<(p.Names.length:Int)))=false:=by
   rw [Bool.or_eq_false_iff,decide_eq_false_iff_not,decide_eq_false_iff_not];omega
  rw [this,zM,<-aOk];unfold Fkn;refine xQ p.Names _ _ e (λk i x h1 g=>?_) (λk=>by simp only [zD,yE,zM]);simp only [zD,yH,yD g,zT,yO h1,zC,fJ g e,aSp x (l x (qS h1)),aCb p.Names (by omega:i<=p.Names.length)]
  cases uX x with
  |false=>rfl
  |true=>
   rw [if_pos rfl];unfold Fiu;have a:(p.Names.take i).length<=9223372036854775807:=by rw [List.length_take];omega
   rw [jL (p.Names.take i) (λy=>decide (x=y)) (some 5) (k ((i+1:Nat):Int)) a (λm _ y g1 g2=>by simp only [zD,yD g2,zT,yO g1,zC,fJ g2 a]) (λm=>by simp only [zD,yE,zM])]
   cases((p.Names.take i).any λy=>decide (x=y))<;>rfl
theorem aK {b:Type}{a:Nat}{l m:List b}(h:l.length+m.length<=100000000)(c:a<=1000):app' a l m=some (l++m):=by
 unfold app';rw [if_pos];have e:maxLen=9223372036854775807:=maxLen_eq;refine⟨by omega,?_⟩;have:=Nat.mul_le_mul h c;omega
def stL (p:Param):List Int:=(List.range (16/p.Every).toNat).map λ(k:Nat)=>p.First+(k:Int)*p.Every
def aCv (p:Param)(s:Int):Bool:= !(p.Parts.any λy=>decide (16<=IntKind.i64.wrap (s+y.Frame)))
def dM (p:Param):List Int:=(stL p).filter (aCv p)
def vP (p:Param)(s t:Int)(y:Part):fG:=fG.mk (IntKind.i64.wrap (s+y.Frame)) (IntKind.i64.wrap (y.Word+IntKind.i64.wrap (t*p.Step))) y.Low y.Bits
def dS (p:Param)(s t:Int):List fG:=p.Parts.map (vP p s t)
def aU (p:Param)(a s:Int)(base n:Nat):List Cell:=(List.range n).map λ(t:Nat)=>Cell.mk a ((base+t:Nat):Int) s (dS p s t)
def cellsS (p:Param)(a:Int)(l:List Int):List Cell:=l.foldl (λcs s=>cs++aU p a s cs.length p.Times.toNat) []
def gU (p:Param)(a:Int):List Cell:=cellsS p a (dM p)
theorem stL_len (p:Param):(stL p).length=(16/p.Every).toNat:=by unfold stL;rw [List.length_map,List.length_range]
theorem aWi {p:Param}{i:Nat}{s:Int}(h:(stL p)[i]? =some s):s=p.First+i*p.Every:=by
 unfold stL at h;rw [List.getElem?_map]at h
 cases hr:(List.range (16/p.Every).toNat)[i]? with
 |none=>rw [hr]at h;cases h
 |some _=>
  rw [hr]at h;have:=(gS.1 hr).2;rw [List.getElem_range]at this;subst this;simpa using h.symm
theorem wK {p:Param} (a:bP p):(stL p).length<=16/\(∀i<(stL p).length,p.First+(i:Int)*p.Every<16)/\ ¬(p.First+((stL p).length:Int)*p.Every<16):=by
 rw [stL_len];have b:=a.f0;have h1:=a.f1;rcases a.ev with e|e|e|e|e<;>rw [e]at h1⊢
 ·refine⟨by decide,λi hi=>?_,?_⟩
  ·have:i<16:=hi;omega
  ·show¬(p.First+((16:Nat):Int)*1<16);omega
 ·refine⟨by decide,λi hi=>?_,?_⟩
  ·have:i<8:=hi;omega
  ·show¬(p.First+((8:Nat):Int)*2<16);omega
 ·refine⟨by decide,λi hi=>?_,?_⟩
  ·have:i<4:=hi;omega
  ·show¬(p.First+((4:Nat):Int)*4<16);omega
 ·refine⟨by decide,λi hi=>?_,?_⟩
  ·have:i<2:=hi;omega
  ·show¬(p.First+((2:Nat):Int)*8<16);omega
 ·refine⟨by decide,λi hi=>?_,?_⟩
  ·have:i<1:=hi;omega
  ·show¬(p.First+((1:Nat):Int)*16<16);omega
theorem aIq {p:Param}(a:bP p):1<=p.Every/\p.Every<=16:=by have:=a.ev;omega
theorem next_w {p:Param}(a:bP p){i:Nat}(hi:i<(stL p).length):IntKind.i64.wrap (p.First+(i:Int)*p.Every+p.Every)=p.First+((i+1:Nat):Int)*p.Every:=by
 have b:=(wK a).2.1 i hi;have c:=aIq a;have:(0:Int)<=(i:Int)*p.Every:=Int.mul_nonneg (by omega) (by omega);have d:=a.f0;rw [Go.OB.wrap_i64 (by omega) (by omega)];have e:((i+1:Nat):Int)*p.Every=(i:Int)*p.Every+p.Every:=by rw [Int.natCast_add,Int.add_mul,Int.natCast_one,Int.one_mul]
 omega
theorem aTi {p:Param} (a:bP p) (e:p.Parts.length<=9223372036854775807):Fbv p=some (dM p):=by
 obtain⟨f1,f2,f3⟩:=wK a;unfold Fbv Fkc;rw [yR (r:=some (dM p)) (λi=>(((stL p).take i).filter (aCv p),p.First+(i:Int)*p.Every)) (stL p).length (by omega)]
 ·rfl
 ·show([],p.First)=([],p.First+((0:Nat):Int)*p.Every);rw [Int.natCast_zero,Int.zero_mul,Int.add_zero]
 ·intro k i hi;have b:(stL p)[i]? =some (stL p)[i]:=gE hi;have c:=aWi b;simp only [zD];rw [dT (f2 i hi),zT,contP_eq _ _ e,zC,next_w a hi,bD b,List.filter_append];have f:aCv p (stL p)[i]= !(p.Parts.any λy=>decide (16<=IntKind.i64.wrap (p.First+(i:Int)*p.Every+y.Frame))):=by rw [c];rfl
  rw [<-f]
  cases h:aCv p (stL p)[i]with
  |false=>
   rw [zM,zC,List.filter_cons_of_neg (by rw [h];decide),List.filter_nil,List.append_nil]
  |true=>
   have d:(((stL p).take i).filter (aCv p)).length<=16:=Nat.le_trans (List.length_filter_le _ _) (by rw [List.length_take];omega);rw [zT,aK (by rw [List.length_singleton];omega) (by decide),zC,zC,List.filter_cons_of_pos h,List.filter_nil,<-c]
 ·intro k;simp only [zD];rw [qD f3,zM,List.take_length];rfl
theorem aTu (p:Param)(s t:Int){i:Nat}{y:Part}(h:p.Parts[i]? =some y):(p.Parts.take (i+1)).map (vP p s t)=(p.Parts.take i).map (vP p s t)++[vP p s t y]:=by
 rw [bD h,List.map_append,List.map_singleton]
theorem aRz (p:Param)(a s:Int)(b n:Nat):aU p a s b (n+1)=aU p a s b n++[Cell.mk a ((b+n:Nat):Int) s (dS p s n)]:=by
 unfold aU;rw [List.range_succ,List.map_append,List.map_singleton]
theorem mG (p:Param)(a s:Int)(b n:Nat):(aU p a s b n).length=n:=by unfold aU;rw [List.length_map,List.length_range]
theorem aHh (p:Param)(a:Int)(l:List Int)(s:Int):cellsS p a (l++[s])=cellsS p a l++aU p a s (cellsS p a l).length p.Times.toNat:=by
 unfold cellsS;rw [List.foldl_append,List.foldl_cons,List.foldl_nil]
theorem aAr (p:Param)(a:Int)(l:List Int):(cellsS p a l).length=l.length*p.Times.toNat:=by
 have: ∀(l:List Int) (cs:List Cell),(l.foldl (λcs s=>cs++aU p a s cs.length p.Times.toNat) cs).length=cs.length+l.length*p.Times.toNat:=by
  intro l
  induction l with
  |nil=>intro cs;simp
  |cons s l b=>
   intro cs;rw [List.foldl_cons,b,List.length_append,mG,List.length_cons,Nat.add_mul,Nat.one_mul];omega
 have:=this l [];simpa [cellsS]using this
theorem aGb {p:Param}(a:bP p)(b:Int)(l:List Int)(h:l.length<=16):(cellsS p b l).length<=912:=by
 rw [aAr];have:=a.t2;have:=Nat.mul_le_mul h (by omega:p.Times.toNat<=57);omega
theorem aOa {p:Param}(a:bP p):(dM p).length<=16:=by
 unfold dM;exact Nat.le_trans (List.length_filter_le _ _) (wK a).1
theorem times_st {p:Param} (f:qB p) (d:bP p) (a s:Int) (cs:List Cell) (g:cs.length<=912):Fgn a p s (cs,0)=some (cs++aU p a s cs.length p.Times.toNat):=by
 have t1:=d.t1;have t2:=d.t2;have h:=f.n8;unfold Fgn;rw [yR (r:=some (cs++aU p a s cs.length p.Times.toNat)) (λi=>(cs++aU p a s cs.length i,(i:Int))) p.Times.toNat (by omega)]
 ·show(cs,(0:Int))=(cs++[],((0:Nat):Int));rw [List.append_nil];rfl
 ·intro k i _;simp only [zD];rw [dT (by omega:(i:Int)<p.Times),zT];have b:Ffi p s (i:Int) (p.Parts.length:Int) (0,[])=some (dS p s i):=by
   unfold Ffi;rw [yR (r:=some (dS p s i)) (λj=>((j:Int),(p.Parts.take j).map (vP p s i))) p.Parts.length (by omega)]
   ·rfl
   ·intro k j c;have e:p.Parts[j]? =some p.Parts[j]:=gE c;simp only [zD,yD c,zT,yO e,zC,Fhi];rw [aK (by rw [List.length_map,List.length_take,List.length_singleton];omega) (by decide),zC,fJ c (by omega),aTu p s i e];rfl
   ·intro k;simp only [zD,yE,zM,List.take_length];rfl
  rw [b,zC,aK (by rw [List.length_append,mG,List.length_singleton];omega) (by decide),zC,zC,Go.OB.wrap_i64 (by omega) (by omega),aRz,List.length_append,mG,List.append_assoc];rfl
 ·intro k;simp only [zD];rw [qD (by omega),zM]
theorem aRa {p:Param} (c:qB p) (b:bP p) (a:Int):Fa4 a p=some (gU p a):=by
 have e:=aOa b;unfold Fa4 Fi0;rw [aTi b (by have:=c.n8;omega),zC,zD];rw [yR (r:=some (gU p a)) (λi=>(cellsS p a ((dM p).take i),(i:Int))) (dM p).length (by omega)];rfl;rfl;intro k i hi;have d:(dM p)[i]? =some (dM p)[i]:=gE hi;simp only [zD,yD hi,zT,yO d,zC];rw [times_st c b a _ _ (aGb b a _ (by rw [List.length_take];omega)),zC,fJ hi (by omega),bD d,aHh];intro k;simp only [zD,yE,zM,List.take_length];rfl
theorem good_2 (p:Param)(a:p.Parts.length<=9223372036854775807)(s:Int):Fgi p s (p.Parts.length:Int) (true,0)=some (aCv p s):=by
 unfold Fgi;rw [aOf p.Parts (λb (y:Part)=>b&&decide (IntKind.i64.wrap (s+y.Frame)<16)) (λb=>some b) true a (λk _ b y h1 d=>by simp only [zD,yD d,zT,yO h1,zC,fJ d a,dY]) (λk b=>by simp only [zD,yE,zM])]
 congr 1
 have: ∀(l:List Part) (b:Bool),l.foldl (λb (y:Part)=>b&&decide (IntKind.i64.wrap (s+y.Frame)<16)) b=(b&& !(l.any λy=>decide (16<=IntKind.i64.wrap (s+y.Frame)))):=by
  intro l
  induction l with
  |nil=>intro b;simp
  |cons y l e=>
   intro b;rw [List.foldl_cons,e,List.any_cons];have:decide (IntKind.i64.wrap (s+y.Frame)<16)= !decide (16<=IntKind.i64.wrap (s+y.Frame)):=by
    by_cases c:16<=IntKind.i64.wrap (s+y.Frame)
    ·rw [dT c];exact qD (by omega)
    ·rw [qD c];exact dT (by omega)
   rw [this,Bool.not_or,Bool.and_assoc]
 rw [this];rfl
theorem times_2 {p:Param} (f:qB p) (d:bP p) (a s:Int) (cs:List Cell) (g:cs.length<=912):Fbk p a s true (cs,0)=some (cs++aU p a s cs.length p.Times.toNat):=by
 have t1:=d.t1;have t2:=d.t2;have h:=f.n8;unfold Fbk;rw [yR (r:=some (cs++aU p a s cs.length p.Times.toNat)) (λi=>(cs++aU p a s cs.length i,(i:Int))) p.Times.toNat (by omega)]
 ·show(cs,(0:Int))=(cs++[],((0:Nat):Int));rw [List.append_nil];rfl
 ·intro k i _;simp only [zD];rw [dT (by omega:(i:Int)<p.Times),zT,zC,zT];have b:Fgv p s (i:Int) (p.Parts.length:Int) (0,[])=some (dS p s i):=by
   unfold Fgv;rw [yR (r:=some (dS p s i)) (λj=>((j:Int),(p.Parts.take j).map (vP p s i))) p.Parts.length (by omega)]
   ·rfl
   ·intro k j c;have e:p.Parts[j]? =some p.Parts[j]:=gE c;simp only [zD,yD c,zT,yO e,zC];rw [aK (by rw [List.length_map,List.length_take,List.length_singleton];omega) (by decide),zC,fJ c (by omega),aTu p s i e];rfl
   ·intro k;simp only [zD,yE,zM,List.take_length];rfl
  rw [b,zC,aK (by rw [List.length_append,mG,List.length_singleton];omega) (by decide),zC,zC,Go.OB.wrap_i64 (by omega) (by omega),aRz,List.length_append,mG,List.append_assoc];rfl
 ·intro k;simp only [zD];rw [qD (by omega),zM,zC,zM]
theorem none_2 {p:Param}(a:bP p)(b s:Int)(cs:List Cell):Fbk p b s false (cs,0)=some cs:=by
 unfold Fbk;rw [yR (r:=some cs) (λ_=>(cs,(0:Int))) 0 (by omega) rfl (λk _ _=>by omega)];intro k;simp only [zD];rw [dT (by have:=a.t1;omega:(0:Int)<p.Times),zT,zC,zM]
theorem aIu {p:Param} (d:qB p) (b:bP p) (a:Int):Fa7 p a=some (gU p a):=by
 obtain⟨f1,f2,f3⟩:=wK b;have g:=d.n8;unfold Fa7 Fkr;rw [yR (r:=some (gU p a)) (λi=>(cellsS p a (((stL p).take i).filter (aCv p)),p.First+(i:Int)*p.Every)) (stL p).length (by omega)]
 ·rfl
 ·show([],p.First)=([],p.First+((0:Nat):Int)*p.Every);rw [Int.natCast_zero,Int.zero_mul,Int.add_zero]
 ·intro k i hi;have e:(stL p)[i]? =some (stL p)[i]:=gE hi;have f:=aWi e;simp only [zD];rw [dT (f2 i hi),zT,good_2 p (by omega),zC,next_w b hi,bD e,List.filter_append];rw [<-f]
  cases h:aCv p (stL p)[i]with
  |false=>
   rw [none_2 b,zC,List.filter_cons_of_neg (by rw [h];decide),List.filter_nil,List.append_nil]
  |true=>
   have c:(((stL p).take i).filter (aCv p)).length<=16:=Nat.le_trans (List.length_filter_le _ _) (by rw [List.length_take];omega);rw [times_2 d b a _ _ (aGb b a _ c),zC,List.filter_cons_of_pos h,List.filter_nil,aHh]
 ·intro k;simp only [zD];rw [qD f3,zM,List.take_length];rfl
theorem aTj {b c:Type} [DecidableEq b] (k a:b) (v:c): ∀l:List (b×c),aCs (kJ l k v) a=(decide (k=a)||aCs l a)
 | []=>by rw [kJ];unfold aCs;rw [List.any_cons,List.any_nil]
 |p::l=>by
  have d:=aTj k a v l;rw [kJ];unfold aCs at d⊢
  by_cases h:p.1=k
  ·rw [if_pos h,List.any_cons,List.any_cons,h]
   cases decide (k=a)<;>simp
  ·rw [if_neg h,List.any_cons,List.any_cons,d]
   cases decide (p.1=a)<;>cases decide (k=a)<;>rfl
theorem aEn {c d:Type} [DecidableEq c] (k b:c) (v z:d): ∀l:List (c×d),aI (kJ l k v) b z=if k=b then v else aI l b z
 | []=>by
  rw [kJ];unfold aI
  by_cases h:k=b
  ·rw [List.find?_cons_of_pos (by simpa using h),if_pos h]
  ·rw [List.find?_cons_of_neg (by simpa using h),if_neg h]
 |p::l=>by
  have f:=aEn k b v z l;rw [kJ];unfold aI at f⊢
  by_cases h:p.1=k
  ·rw [if_pos h]
   by_cases a:k=b
   ·rw [List.find?_cons_of_pos (by simpa using a),if_pos a]
   ·rw [List.find?_cons_of_neg (by simpa using a),if_neg a,List.find?_cons_of_neg (by rw [h];simpa using a)]
  ·rw [if_neg h]
   by_cases a:p.1=b
   ·rw [List.find?_cons_of_pos (by simpa using a),List.find?_cons_of_pos (by simpa using a),if_neg (by rw [<-a];exact λe=>h e.symm)]
   ·rw [List.find?_cons_of_neg (by simpa using a),List.find?_cons_of_neg (by simpa using a)];exact f
theorem wV {b a σ:Type}{body:(Int×σ->Option a)->Int×σ->Option a}(l:List b)(f:Nat->b->σ->σ ⊕ Option a)(fin:σ->Option a)(s:σ)(c:l.length<=9223372036854775807)
  (h: ∀k (i:Nat) s x,l[i]? =some x->i<l.length->body k ((i:Int),s)=match f i x s with | .inl s'=>k (((i+1:Nat):Int),s')| .inr r=>r)(d: ∀k s,body k ((l.length:Int),s)=fin s):gZ body (0,s)=aX f fin l 0 s:=
 nX (λ(i:Nat) (s:σ)=>((i:Int),s)) l f fin c (λk i s x h1=>h k i s x h1 (gS.1 h1).1) d s
theorem aOl {b a σ:Type}{body:(σ×Int->Option a)->σ×Int->Option a}(l:List b)(f:Nat->b->σ->σ ⊕ Option a)(fin:σ->Option a)(s:σ)(c:l.length<=9223372036854775807)
  (h: ∀k (i:Nat) s x,l[i]? =some x->i<l.length->body k (s,(i:Int))=match f i x s with | .inl s'=>k (s',((i+1:Nat):Int))| .inr r=>r)(d: ∀k s,body k (s,(l.length:Int))=fin s):gZ body (s,0)=aX f fin l 0 s:=
 nX (λ(i:Nat) (s:σ)=>(s,(i:Int))) l f fin c (λk i s x h1=>h k i s x h1 (gS.1 h1).1) d s
def aC (x:fG):List fA:=(List.range x.Bits.toNat).map λ(i:Nat)=>fA.mk x.Frame x.Word (x.Low+(i:Int))
def OkP (x:fG):Prop:=0<=x.Low/\x.Low<=10/\1<=x.Bits/\x.Bits<=11
theorem bitsAt_l {x:fG} (h:OkP x):Fcz x=some (aC x):=by
 obtain⟨h1,_,_,_⟩:=h;unfold Fcz Fii;rw [yR (r:=some (aC x)) (λi=>((List.range i).map λ(i:Nat)=>fA.mk x.Frame x.Word (x.Low+(i:Int)),(i:Int))) x.Bits.toNat (by omega)];rfl;rfl;intro k i _;simp only [zD];rw [dT (by omega:(i:Int)<x.Bits),zT,Go.OB.wrap_i64 (by omega) (by omega),aK (by rw [List.length_map,List.length_range,List.length_singleton];omega) (by decide),zC,Go.OB.wrap_i64 (by omega) (by omega),List.range_succ,List.map_append,List.map_singleton];rfl;intro k;simp only [zD];rw [qD (by omega),zM];rfl
def tkP (o:Int):List fA->List (fA×Int)->Bool×List (fA×Int)
 | [],m=>(true,m)
 |b::l,m=>if aCs m b=true then(false,m)else tkP o l (kJ m b o)
theorem aPy (o:Int): ∀(l l':List fA) (m:List (fA×Int)),tkP o (l++l') m=if (tkP o l m).1=true then tkP o l' (tkP o l m).2 else tkP o l m
 | [],l',m=>rfl
 |b::l,l',m=>by
  rw [List.cons_append,tkP,tkP]
  by_cases h:aCs m b=true
  ·rw [if_pos h,if_pos h];rfl
  ·rw [if_neg h,if_neg h];exact aPy o l l' _
theorem take_runP (o:Int)(l:List fA)(k:List (fA×Int)->Option (Bool×List (fA×Int)))(m:List (fA×Int))(a:l.length<=9223372036854775807):
  Fg6 o k l (l.length:Int) (0,m)=if (tkP o l m).1=true then k (tkP o l m).2 else some (tkP o l m):=by
 unfold Fg6;rw [wV l (λ_ b m=>if aCs m b=true then .inr (some (false,m))else .inl (kJ m b o)) (λm=>k m) m a
  (λk i m b h1 c=>by
   simp only [zD,yD c,zT,yO h1,zC,fJ c a]
   cases aCs m b<;>rfl)
  (λk m=>by simp only [zD,yE,zM])]
 have: ∀(l:List fA) (i:Nat) (m:List (fA×Int)),aX (λ_ b m=>if aCs m b=true then .inr (some (false,m))else .inl (kJ m b o)) (λm=>k m) l i m=if (tkP o l m).1=true then k (tkP o l m).2 else some (tkP o l m):=by
  intro l
  induction l with
  |nil=>intro i m;rfl
  |cons b l d=>
   intro i m;rw [aX,tkP]
   cases h:aCs m b with
   |true=>rfl
   |false=>exact d (i+1) _
 exact this l 0 m
theorem take_l (o:Int)(l:List fG)(m:List (fA×Int))(a:l.length<=9223372036854775807)(d: ∀x∈l,OkP x):Fbi m o l=some (tkP o (l.flatMap aC) m):=by
 unfold Fbi Fkb;rw [yH,zD];rw [wV l (λ_ x m=>if (tkP o (aC x) m).1=true then .inl (tkP o (aC x) m).2 else .inr (some (tkP o (aC x) m))) (λm=>some (true,m)) m a
  (λk i m x h1 b=>by
   have c:=d x (qS h1);simp only [zD,yH,yD b,zT,yO h1,zC,fJ b a,bitsAt_l c];rw [take_runP o _ _ _ (by unfold aC;rw [List.length_map,List.length_range];have:=c.2.2.2;omega)]
   cases(tkP o (aC x) m).1<;>rfl)
  (λk m=>by simp only [zD,yE,zM])]
 have: ∀(l:List fG) (i:Nat) (m:List (fA×Int)),aX (λ_ x m=>if (tkP o (aC x) m).1=true then .inl (tkP o (aC x) m).2 else .inr (some (tkP o (aC x) m))) (λm=>some (true,m)) l i m=some (tkP o (l.flatMap aC) m):=by
  intro l
  induction l with
  |nil=>intro i m;rfl
  |cons x l e=>
   intro i m;rw [aX,List.flatMap_cons,aPy]
   by_cases h:(tkP o (aC x) m).1=true
   ·rw [if_pos h,if_pos h];exact e (i+1) _
   ·rw [if_neg h,if_neg h]
 exact this l 0 m
def aMs (b:fA):Arr 3 Int:=⟨[b.frame,b.word,b.bit],rfl⟩
def tkR:List fA->Bool×List (Arr 3 Int×Bool)->Bool×List (Arr 3 Int×Bool)
 | [],s=>s
 |b::l,s=>tkR l (s.1&& !aI s.2 (aMs b) false,kJ s.2 (aMs b) true)
theorem aIz: ∀(l l':List fA) (s:Bool×List (Arr 3 Int×Bool)),tkR (l++l') s=tkR l' (tkR l s)
 | [],_,_=>rfl
 |b::l,l',s=>by rw [List.cons_append,tkR,tkR];exact aIz l l' _
theorem aJa: ∀(l:List fA) (b:Bool) (m:List (Arr 3 Int×Bool)),(tkR l (b,m)).1=(b&&(tkR l (true,m)).1)/\(tkR l (b,m)).2=(tkR l (true,m)).2
 | [],b,m=>by simp [tkR]
 |x::l,b,m=>by
  rw [tkR,tkR];have h1:=aJa l (b&& !aI m (aMs x) false) (kJ m (aMs x) true);have a:=aJa l (true&& !aI m (aMs x) false) (kJ m (aMs x) true);refine⟨?_,h1.2.trans a.2.symm⟩;rw [h1.1,a.1,Bool.true_and,Bool.and_assoc]
theorem take_2a {x:fG} (a:OkP x) (b:Bool) (m:List (Arr 3 Int×Bool)):Fg2 x (b,x.Low,m)=some (tkR (aC x) (b,m)):=by
 obtain⟨h1,_,_,_⟩:=a;unfold Fg2;have e:aC x=(List.range x.Bits.toNat).map λ(i:Nat)=>fA.mk x.Frame x.Word (x.Low+(i:Int)):=rfl;rw [yR (r:=some (tkR (aC x) (b,m))) (λi=>((tkR ((List.range i).map λ(i:Nat)=>fA.mk x.Frame x.Word (x.Low+(i:Int))) (b,m)).1,x.Low+(i:Int),(tkR ((List.range i).map λ(i:Nat)=>fA.mk x.Frame x.Word (x.Low+(i:Int))) (b,m)).2)) x.Bits.toNat (by omega)];show(b,x.Low,m)=(b,x.Low+((0:Nat):Int),m);rw [Int.natCast_zero,Int.add_zero];intro k i _;simp only [zD];rw [Go.OB.wrap_i64 (by omega: -9223372036854775808<=x.Low+x.Bits) (by omega),dT (by omega:x.Low+(i:Int)<x.Low+x.Bits),zT,dY,zC,Go.OB.wrap_i64 (by omega) (by omega),List.range_succ,List.map_append,List.map_singleton,aIz];have:x.Low+(i:Int)+1=x.Low+((i+1:Nat):Int):=by omega
 rw [this];rfl;intro k;simp only [zD];rw [Go.OB.wrap_i64 (by omega: -9223372036854775808<=x.Low+x.Bits) (by omega),qD (by omega: ¬x.Low+(x.Bits.toNat:Int)<x.Low+x.Bits),zM];rfl
theorem take_2 (l:List fG) (m:List (Arr 3 Int×Bool)) (a:l.length<=9223372036854775807) (c: ∀x∈l,OkP x):Ff1 m l=some (tkR (l.flatMap aC) (true,m)):=by
 unfold Ff1 Fhu;rw [zD];rw [yR (r:=some (tkR (l.flatMap aC) (true,m))) (λi=>((tkR ((l.take i).flatMap aC) (true,m)).1,(i:Int),(tkR ((l.take i).flatMap aC) (true,m)).2)) l.length a];rfl;rfl;intro k i hi;have b:l[i]? =some l[i]:=gE hi;simp only [zD,yD hi,zT,yO b,zC];rw [take_2a (c _ (List.getElem_mem hi)),zC,fJ hi a,bD b,List.flatMap_append,List.flatMap_singleton,aIz];intro k;simp only [zD,yE,zM,List.take_length]
theorem aNe (l:List Cell) (m:List (Arr 3 Int×Bool)) (a:l.length<=9223372036854775807) (e: ∀c∈l,c.Places.length<=9223372036854775807/\ ∀x∈c.Places,OkP x):Fds m l=some (tkR (l.flatMap λc=>c.Places.flatMap aC) (true,m)):=by
 unfold Fds Fkh;rw [zD];rw [yR (r:=some (tkR (l.flatMap λc=>c.Places.flatMap aC) (true,m))) (λi=>((tkR ((l.take i).flatMap λc=>c.Places.flatMap aC) (true,m)).1,(i:Int),(tkR ((l.take i).flatMap λc=>c.Places.flatMap aC) (true,m)).2)) l.length a];rfl;rfl;intro k i hi;have b:l[i]? =some l[i]:=gE hi;have d:=e _ (List.getElem_mem hi);simp only [zD,yD hi,zT,yO b,zC];rw [take_2 _ _ d.1 d.2,zC,fJ hi a,bD b,List.flatMap_append,List.flatMap_singleton,aIz];generalize tkR ((l.take i).flatMap λc=>c.Places.flatMap aC) (true,m)=s;have:=aJa (l[i].Places.flatMap aC) s.1 s.2;have f:tkR (l[i].Places.flatMap aC) s=((s.1&&(tkR (l[i].Places.flatMap aC) (true,s.2)).1),(tkR (l[i].Places.flatMap aC) (true,s.2)).2):=Prod.ext this.1 this.2;rw [f];generalize tkR (l[i].Places.flatMap aC) (true,s.2)=q;obtain⟨g,_⟩:=q;obtain⟨s1,_⟩:=s;cases g<;>cases s1<;>rfl;intro k;simp only [zD,yE,zM,List.take_length]
def relB (m:List (fA×Int))(m':List (Arr 3 Int×Bool)):Prop:= ∀b,aCs m b=aI m' (aMs b) false
theorem aTq {a b:fA}:aMs a=aMs b↔a=b:=by
 constructor
 ·intro h;have:=congrArg Arr.l h;simp only [aMs,List.cons.injEq,and_true]at this
  cases a;cases b
  simp_all
 ·intro h;rw [h]
theorem aWk (o:Int): ∀(l:List fA) (m:List (fA×Int)) (m':List (Arr 3 Int×Bool)),relB m m'->(tkP o l m).1=(tkR l (true,m')).1/\((tkP o l m).1=true->relB (tkP o l m).2 (tkR l (true,m')).2)
 | [],m,m',h=>⟨rfl,λ_=>h⟩
 |b::l,m,m',h=>by
  rw [tkP,tkR,<-h b]
  cases hb:aCs m b with
  |true=>
   rw [if_pos rfl];refine⟨?_,λc=>by cases c⟩;rw [(aJa l _ _).1];rfl
  |false=>
   rw [if_neg (by decide)];refine aWk o l _ _ λc=>?_
   rw [aTj,aEn,h c]
   by_cases e:b=c
   ·rw [if_pos (aTq.2 e),dT e,Bool.true_or]
   ·rw [if_neg (λq=>e (aTq.1 q)),qD e,Bool.false_or]
structure SzP (p:Param):Prop where
 nm:p.Name.length<=9223372036854775807
 pl:p.Parts.length<=9223372036854775807
 nl:p.Names.length<=9223372036854775807
 ns: ∀s∈p.Names,s.length<=9223372036854775807
def bI (c:Cell):List fA:=c.Places.flatMap aC
def pI (p:Param):Int:=if uX p.Name=false then 8 else if dH p.Kind 1 6=true then 7 else if pfM p≠0 then pfM p else if tfM p≠0 then tfM p else if kfM p≠0 then kfM p else if (tkP 0 ((gU p 0).flatMap bI) []).1=false then 5 else if (gU p 0).length=0 then 13 else 0
structure qR (p:Param):Prop where
 nm:uX p.Name=true
 kd:dH p.Kind 1 6=false
 pt:qB p
 tm:bP p
 pf:pfM p=0
 tf:tfM p=0
 kf:kfM p=0
 cl:(gU p 0).length≠0
 ck:pI p=0
theorem tf_ok {p:Param} (h:tfM p=0):bP p:=by
 unfold tfM at h;split at h;cases h;rename_i h1;exact aRo (by simpa using h1)
theorem jI {p:Param}(h:pI p=0):qR p:=by
 have a:=h;unfold pI at h;split at h;cases h;rename_i h1;split at h;cases h;rename_i f;split at h;rename_i c;exact absurd h c;rename_i b;split at h;rename_i c;exact absurd h c;rename_i d;split at h;rename_i c;exact absurd h c;rename_i e;split at h;cases h;split at h;cases h;rename_i g;have b:pfM p=0:=by omega
 have d:tfM p=0:=by omega
 have e:kfM p=0:=by omega
 exact⟨by simpa using h1,by simpa using f,aNj b,tf_ok d,b,d,e,g,a⟩
theorem aVc {p:Param}{a s:Int}{b n:Nat}{c:Cell}(h:c∈aU p a s b n): ∃t,t<n/\c=Cell.mk a ((b+t:Nat):Int) s (dS p s t):=by
 unfold aU at h;obtain⟨t,d,rfl⟩:=List.mem_map.1 h;exact⟨t,List.mem_range.1 d,rfl⟩
theorem aEd {p:Param}{a:Int}{l:List Int}{c:Cell} (h:c∈cellsS p a l): ∃s t i,s∈l/\t<p.Times.toNat/\c=Cell.mk a i s (dS p s (t:Nat)):=by
 have: ∀(l:List Int) (cs:List Cell),c∈l.foldl (λcs s=>cs++aU p a s cs.length p.Times.toNat) cs->c∈cs\/ ∃s t i,s∈l/\t<p.Times.toNat/\c=Cell.mk a i s (dS p s (t:Nat)):=by
  intro l
  induction l with
  |nil=>intro cs h;exact .inl h
  |cons s l b=>
   intro cs h;rw [List.foldl_cons]at h;rcases b _ h with h|⟨d,t,i,h1,f,g⟩
   ·rcases mA.1 h with h|h
    ·exact .inl h
    ·obtain⟨t,j,e⟩:=aVc h;exact .inr ⟨s,t,_,List.mem_cons_self ..,j,e⟩
   ·exact .inr ⟨d,t,i,List.mem_cons_of_mem _ h1,f,g⟩
 rcases this l [] h with h|h
 ·cases h
 ·exact h
theorem places_ok {p:Param}(a:qB p){s t:Int}{x:fG}(h:x∈dS p s t):OkP x:=by
 unfold dS at h;obtain⟨y,b,rfl⟩:=List.mem_map.1 h;have:=aMc (a.all y b);unfold OkP vP;simp only;omega
theorem aIp {p:Param}(a:qB p){b:Int}{c:Cell}(h:c∈gU p b):c.Places.length<=9223372036854775807/\ ∀x∈c.Places,OkP x:=by
 obtain⟨s,t,_,h1,_,rfl⟩:=aEd h;refine⟨?_,λx d=>places_ok a d⟩;show(dS p s t).length<=_;unfold dS;rw [List.length_map];have:=a.n8;omega
theorem bT {p:Param}(a:bP p)(b:Int):(gU p b).length<=912:=aGb a b _ (aOa a)
theorem aAk (p:Param)(a:Int):(gU p a).flatMap bI=(gU p 0).flatMap bI/\(gU p a).length=(gU p 0).length:=by
 refine⟨?_,by unfold gU;rw [aAr,aAr]⟩;have: ∀(l:List Int) (cs cs':List Cell),cs.flatMap bI=cs'.flatMap bI->(l.foldl (λcs s=>cs++aU p a s cs.length p.Times.toNat) cs).flatMap bI=(l.foldl (λcs s=>cs++aU p 0 s cs.length p.Times.toNat) cs').flatMap bI:=by
  intro l
  induction l with
  |nil=>intro cs cs' h;exact h
  |cons s l b=>
   intro cs cs' h;rw [List.foldl_cons,List.foldl_cons];refine b _ _ ?_;rw [List.flatMap_append,List.flatMap_append,h]
   congr 1
   unfold aU;rw [List.flatMap_map,List.flatMap_map];rfl
 exact this (dM p) [] [] rfl
theorem aRl {a:Type}(o:Int)(r:Option a)(fin:List (fA×Int)->Option a): ∀(l:List Cell) (i:Nat) (m:List (fA×Int)),aX (λ_ c m=>if (tkP o (bI c) m).1=true then .inl (tkP o (bI c) m).2 else .inr r) fin l i m=if (tkP o (l.flatMap bI) m).1=true then fin (tkP o (l.flatMap bI) m).2 else r
 | [],i,m=>rfl
 |c::l,i,m=>by
  rw [aX,List.flatMap_cons,aPy]
  by_cases h:(tkP o (bI c) m).1=true
  ·rw [if_pos h,if_pos h];exact aRl o r fin l (i+1) _
  ·rw [if_neg h,if_neg h,if_neg h]
theorem par_l {p:Param} (e:SzP p):Fbr p=some (pI p):=by
 unfold Fbr pI;simp only [aTd,lwi,zC,zD,yH,nwi,pf_l p e.pl]
 cases uX p.Name with
 |false=>rfl
 |true=>
  simp only [Bool.not_true,zM,Bool.true_eq_false,if_false];show gJ (dH p.Kind 1 6) _ _=_
  cases dH p.Kind 1 6 with
  |true=>rfl
  |false=>
   simp only [zM,Bool.false_eq_true,if_false,yS]
   by_cases d:pfM p=0
   ·simp only [d,if_true,ne_eq,not_true,if_false]
    by_cases f:tfM p=0
    ·simp only [f,not_true,if_false];rw [kf_l p e.pl e.nl (aNj d),zC]
     by_cases g:kfM p=0
     ·simp only [g,not_true,if_false];have h:=aNj d;have j:=tf_ok f;have a:(gU p 0).length<=9223372036854775807:=Nat.le_trans (bT j 0) (by decide);rw [aRa h j,zC];unfold Fjc;rw [wV (gU p 0) (λ_ c m=>if (tkP 0 (bI c) m).1=true then .inl (tkP 0 (bI c) m).2 else .inr (some 5)) (λ_=>if ((gU p 0).length:Int)=0 then some 13 else some 0) [] a
       (λk _ m c h1 l=>by
        have n:=aIp h (qS h1);simp only [zD,yD l,zT,yO h1,zC,fJ l a,take_l 0 c.Places m n.1 n.2];show gJ (!(tkP 0 (bI c) m).1) _ (k (_,(tkP 0 (bI c) m).2))=_;rcases tkP 0 (bI c) m with ⟨b,_⟩
        cases b<;>rfl)
       (λk m=>by simp only [zD,yE,zM]),aRl]
      cases(tkP 0 ((gU p 0).flatMap bI) []).1 with
      |false=>rfl
      |true=>
       simp only [if_true,Bool.true_eq_false,if_false]
       by_cases c:(gU p 0).length=0
       ·rw [if_pos c,if_pos (by omega)]
       ·rw [if_neg c,if_neg (by omega)]
     ·simp only [g,not_false_eq_true,if_true]
    ·simp only [f,not_false_eq_true,if_true]
   ·simp only [d,if_false,ne_eq,not_false_eq_true,if_true]
theorem par_2 {p:Param} (a:SzP p):Fcy p=some (pI p):=by
 unfold Fcy pI;simp only [aSp p.Name a.nm,out2,zC,zD,pf_2 p a.pl]
 cases uX p.Name with
 |false=>rfl
 |true=>
  simp only [Bool.not_true,zM,Bool.true_eq_false,if_false];show gJ (dH p.Kind 1 6) _ _=_
  cases dH p.Kind 1 6 with
  |true=>rfl
  |false=>
   simp only [zM,Bool.false_eq_true,if_false,yS]
   by_cases d:pfM p=0
   ·simp only [d,ne_eq,not_true,if_false];rw [tf_2 p a.pl (aNj d).all,zC]
    by_cases f:tfM p=0
    ·simp only [f,not_true,if_false];rw [kf_2 p a.pl a.nl a.ns (aNj d),zC]
     by_cases h:kfM p=0
     ·simp only [h,not_true,if_false];have i:=aNj d;have j:=tf_ok f;have g:(gU p 0).length<=9223372036854775807:=Nat.le_trans (bT j 0) (by decide);rw [aIu i j,zC,aNe _ _ g (λc k=>aIp i k),zC];have l:=aWk 0 ((gU p 0).flatMap bI) [] [] (λ_=>rfl);have e:(tkR ((gU p 0).flatMap λc=>c.Places.flatMap aC) (true,[])).1=(tkP 0 ((gU p 0).flatMap bI) []).1:=l.1.symm;simp only [e]
      cases(tkP 0 ((gU p 0).flatMap bI) []).1 with
      |false=>rfl
      |true=>
       simp only [Bool.not_true,zM,Bool.true_eq_false,if_false]
       by_cases c:(gU p 0).length=0
       ·rw [if_pos c,if_pos (by omega)]
       ·rw [if_neg c,if_neg (by omega)]
     ·simp only [h,not_false_eq_true,if_true]
    ·simp only [f,not_false_eq_true,if_true]
   ·simp only [d,ne_eq,not_false_eq_true,if_true]
structure SzM (m:Map):Prop where
 pl:m.Params.length<=9223372036854775807
 ps: ∀p∈m.Params,SzP p
theorem aO {b d:Type} (q:Nat->b->Option (Option d)): ∀(l:List b) (i:Nat),
  (∃j x v,l[j]? =some x/\q (i+j) x=some v/\ ∀fin,dI q fin l i=v)\/((∀j x,l[j]? =some x->q (i+j) x=none)/\ ∀fin,dI q fin l i=fin)
 | [],i=> .inr ⟨λj x h=>by simp at h,λ_=>rfl⟩
 |x::l,i=>by
  cases h:q i x with
  |some v=>exact .inl ⟨0,x,v,rfl,h,λfin=>by rw [dI,h]⟩
  |none=>
   rcases aO q l (i+1)with ⟨j,y,v,h1,c,e⟩|⟨h1,c⟩
   ·refine .inl ⟨j+1,y,v,by simpa using h1,by rwa [show i+(j+1)=i+1+j by omega],λfin=>?_⟩;rw [dI,h];exact e fin
   ·refine .inr ⟨λj y a=>?_,λfin=>?_⟩
    ·cases j with
     |zero=>simp at a;subst a;exact h
     |succ j=>have:=h1 j y (by simpa using a);rwa [show i+(j+1)=i+1+j by omega]
    ·rw [dI,h];exact c fin
def aQf (l:List Param):Nat->Param->Option (Option (Int×Int)):=λi x=>if pI x=0 then(if (l.take i).any (λy=>decide (y.Name=x.Name))=true then some (some ((i:Int),5))else none)else some (some ((i:Int),pI x))
def cntF:Nat->Param->Int->Int ⊕ Option (Int×Int):=λi x s=>if 4000<IntKind.i64.wrap (s+(gU x 0).length)then .inr (some ((i:Int),3))else .inl (IntKind.i64.wrap (s+(gU x 0).length))
def tkF:Nat->Param->List (fA×Int)->List (fA×Int) ⊕ Option (Int×Int):=λi x m=>if (tkP (i:Int) ((gU x 0).flatMap bI) m).1=true then .inl (tkP (i:Int) ((gU x 0).flatMap bI) m).2 else .inr (some ((i:Int),5))
def tkG:Nat->Param->List (Arr 3 Int×Bool)->List (Arr 3 Int×Bool) ⊕ Option (Int×Int):=λi x m=>if (tkR ((gU x 0).flatMap bI) (true,m)).1=true then .inl (tkR ((gU x 0).flatMap bI) (true,m)).2 else .inr (some ((i:Int),5))
theorem chkL1 (m:Map) (a:SzM m) (r:Option (Int×Int)):Feb m (λ_=>r) (m.Params.length:Int) 0=dI (aQf m.Params) r m.Params 0:=by
 unfold Feb;refine xQ m.Params _ _ a.pl (λk i x h1 b=>?_) (λk=>by simp only [zD,yE,zM]);have d:=a.ps x (qS h1);simp only [zD,yD b,zT,yO h1,zC,fJ b a.pl,par_l d,aCb m.Params (by omega:i<=m.Params.length)];rw [contM_eq _ _ (by rw [List.length_take];have:=a.pl;omega),zC,yS];unfold aQf;by_cases c:pI x=0;rw [if_neg (by simpa using c),if_pos c];cases((m.Params.take i).any λy=>decide (y.Name=x.Name))<;>rfl;rw [if_pos c,if_neg c]
theorem chkR1 (m:Map) (b:SzM m) (r:Option (Int×Int)):Fe9 m (λ_=>r) (m.Params.length:Int) 0=dI (aQf m.Params) r m.Params 0:=by
 unfold Fe9;refine xQ m.Params _ _ b.pl (λk i x h1 d=>?_) (λk=>by simp only [zD,yE,zM]);have e:=b.ps x (qS h1);simp only [zD,yH,yD d,zT,yO h1,zC,fJ d b.pl,par_2 e,aCb m.Params (by omega:i<=m.Params.length)];have a:(m.Params.take i).length<=9223372036854775807:=by rw [List.length_take];have:=b.pl;omega
 unfold Fiy;rw [jL (m.Params.take i) (λy=>decide (y.Name=x.Name)) (some ((i:Int),5)) (k ((i+1:Nat):Int)) a (λf _ y g1 g2=>by simp only [zD,yD g2,zT,yO g1,zC,fJ g2 a]) (λf=>by simp only [zD,yE,zM]),yS];unfold aQf;by_cases c:pI x=0;rw [if_neg (by simpa using c),if_pos c];cases((m.Params.take i).any λy=>decide (y.Name=x.Name))<;>rfl;rw [if_pos c,if_neg c]
theorem chkL2 (m:Map)(a:SzM m)(g: ∀p∈m.Params,qR p)(r:Option (Int×Int)):Fg5 m (λ_=>r) (m.Params.length:Int) (0,0)=aX cntF (λ_=>r) m.Params 0 0:=by
 unfold Fg5;refine aOl m.Params cntF (λ_=>r) 0 a.pl (λk _ s x h1 d=>?_) (λk s=>by simp only [zD,yE,zM]);have b:=g x (qS h1);have hm:=a.ps x (qS h1);have f:=bT b.tm 0;have h:(gU x 0).length=(dM x).length*x.Times.toNat:=aAr ..;have j:=b.tm.t1;have e:((dM x).length:Int)*x.Times=((gU x 0).length:Int):=by
  rw [h,Int.natCast_mul]
  congr 1
  omega
 simp only [zD,yD d,zT,yO h1,zC,fJ d a.pl,aTi b.tm hm.pl,e,Go.OB.wrap_i64 (by omega: -9223372036854775808<=((gU x 0).length:Int)) (by omega),yS];unfold cntF
 by_cases c:4000<IntKind.i64.wrap (s+(gU x 0).length)
 ·rw [if_pos c,if_pos c]
 ·rw [if_neg c,if_neg c]
theorem chkR3 (m:Map)(a:SzM m)(e: ∀p∈m.Params,qR p)(r:Option (Int×Int)):Fgc m (λ_=>r) (m.Params.length:Int) (0,0)=aX cntF (λ_=>r) m.Params 0 0:=by
 unfold Fgc;refine aOl m.Params cntF (λ_=>r) 0 a.pl (λk i s x h1 b=>?_) (λk s=>by simp only [zD,yE,zM]);have d:=e x (qS h1);simp only [zD,yD b,zT,yO h1,zC,fJ b a.pl,aIu d.pt d.tm,(aAk x (i:Int)).2,yS];unfold cntF;by_cases c:4000<IntKind.i64.wrap (s+(gU x 0).length);rw [if_pos c,if_pos c];rw [if_neg c,if_neg c]
theorem chkL3 (m:Map)(e:SzM m)(h: ∀p∈m.Params,qR p)(r:Option (Int×Int)):Fhe m (λ_=>r) (m.Params.length:Int) (0,[])=aX tkF (λ_=>r) m.Params 0 []:=by
 unfold Fhe;refine wV m.Params tkF (λ_=>r) [] e.pl (λk i s x h1 f=>?_) (λk s=>by simp only [zD,yE,zM]);have d:=h x (qS h1);have a:(gU x (i:Int)).length<=9223372036854775807:=Nat.le_trans (bT d.tm _) (by decide);simp only [zD,yH,yD f,zT,yO h1,zC,fJ f e.pl,aRa d.pt d.tm];unfold Fik;rw [wV (gU x (i:Int)) (λ_ c m=>if (tkP (i:Int) (bI c) m).1=true then .inl (tkP (i:Int) (bI c) m).2 else .inr (some ((i:Int),5))) (λm=>k (((i+1:Nat):Int),m)) s a
  (λk _ m c g1 g2=>by
   have g:=aIp d.pt (qS g1);simp only [zD,yD g2,zT,yO g1,zC,fJ g2 a,take_l _ c.Places m g.1 g.2];show gJ (!(tkP (i:Int) (bI c) m).1) _ (k (_,(tkP (i:Int) (bI c) m).2))=_;rcases tkP (i:Int) (bI c) m with ⟨b,_⟩
   cases b<;>rfl)
  (λk m=>by simp only [zD,yE,zM]),aRl,(aAk x (i:Int)).1]
 unfold tkF
 by_cases c:(tkP (i:Int) ((gU x 0).flatMap bI) s).1=true
 ·rw [if_pos c,if_pos c]
 ·rw [if_neg c,if_neg c]
theorem chkR4 (m:Map)(f:SzM m)(h: ∀p∈m.Params,qR p)(r:Option (Int×Int)):Fhd m (λ_=>r) (m.Params.length:Int) (0,[])=aX tkG (λ_=>r) m.Params 0 []:=by
 unfold Fhd;refine wV m.Params tkG (λ_=>r) [] f.pl (λk i s x h1 g=>?_) (λk s=>by simp only [zD,yE,zM]);have a:=h x (qS h1);have d:(gU x (i:Int)).length<=9223372036854775807:=Nat.le_trans (bT a.tm _) (by decide);simp only [zD,yD g,zT,yO h1,zC,fJ g f.pl,aIu a.pt a.tm,aNe _ _ d (λc j=>aIp a.pt j)];have e:((gU x (i:Int)).flatMap λc=>c.Places.flatMap aC)=(gU x 0).flatMap bI:=(aAk x (i:Int)).1;rw [e];unfold tkG;rcases tkR ((gU x 0).flatMap bI) (true,s)with ⟨b,_⟩
 cases b<;>rfl
theorem tk_two: ∀(l:List Param) (i:Nat) (m:List (fA×Int)) (m':List (Arr 3 Int×Bool)),relB m m'->
  (∃v:Int×Int,v.2≠0/\0<=v.1/\ ∀r a,aX tkF (λ_=>r) l i m=some v/\aX tkG (λ_=>a) l i m'=some v)\/ ∀r a,aX tkF (λ_=>r) l i m=r/\aX tkG (λ_=>a) l i m'=a
 | [],i,m,m',_=> .inr λr a=>⟨rfl,rfl⟩
 |x::l,i,m,m',h=>by
  have c:=aWk (i:Int) ((gU x 0).flatMap bI) m m' h
  cases hb:(tkP (i:Int) ((gU x 0).flatMap bI) m).1 with
  |false=>
   refine .inl ⟨((i:Int),5),(by show(5:Int)≠0;decide),by omega,λr a=>⟨?_,?_⟩⟩
   ·rw [aX,tkF,if_neg (by rw [hb];decide)]
   ·rw [aX,tkG,if_neg (by rw [<-c.1,hb];decide)]
  |true=>
   rcases tk_two l (i+1) _ _ (c.2 hb)with ⟨v,h1,d,b⟩|b
   ·refine .inl ⟨v,h1,d,λr a=>⟨?_,?_⟩⟩
    ·rw [aX,tkF,if_pos hb];exact(b r a).1
    ·rw [aX,tkG,if_pos (by rw [<-c.1,hb])];exact(b r a).2
   ·refine .inr λr a=>⟨?_,?_⟩
    ·rw [aX,tkF,if_pos hb];exact(b r a).1
    ·rw [aX,tkG,if_pos (by rw [<-c.1,hb])];exact(b r a).2
theorem aZz: ∀(l:List Param) (i:Nat) (s:Int),0<=s->s<=4000->(∀p∈l,(gU p 0).length<=912)->
  (∃v:Int×Int,v.2≠0/\0<=v.1/\ ∀r,aX cntF (λ_=>r) l i s=some v)\/((∀r,aX cntF (λ_=>r) l i s=r)/\s+((l.map λp=>(gU p 0).length).sum:Nat)<=4000)
 | [],i,s,_,h,_=> .inr ⟨λr=>rfl,by simpa using h⟩
 |x::l,i,s,g,h,d=>by
  have j:=d x (List.mem_cons_self ..);have a:IntKind.i64.wrap (s+(gU x 0).length)=s+(gU x 0).length:=Go.OB.wrap_i64 (by omega) (by omega)
  by_cases c:4000<s+(gU x 0).length
  ·refine .inl ⟨((i:Int),3),(by show(3:Int)≠0;decide),by omega,λr=>?_⟩;rw [aX,cntF,a,if_pos c]
  ·rcases aZz l (i+1) (s+(gU x 0).length) (by omega) (by omega) (λp e=>d p (List.mem_cons_of_mem _ e))with ⟨v,h1,f,b⟩|⟨b,_⟩
   ·refine .inl ⟨v,h1,f,λr=>?_⟩;rw [aX,cntF,a,if_neg c];exact b r
   ·refine .inr ⟨λr=>?_,?_⟩
    ·rw [aX,cntF,a,if_neg c];exact b r
    ·rw [List.map_cons,List.sum_cons];omega
structure MapOk (m:Map):Prop where
 n:m.Params.length<=200
 v0:0<=m.Version
 v1:m.Version<=2047
 all: ∀p∈m.Params,qR p
 names: ∀(j:Nat) (x:Param),m.Params[j]? =some x->(m.Params.take j).any (λy=>decide (y.Name=x.Name))=false
 cnt:(m.Params.map λp=>(gU p 0).length).sum<=4000
theorem map_two {m:Map} (d:SzM m): ∃v:Int×Int,Fax m=some v/\Fba m=some v/\(v.2=0->v.1=0/\MapOk m):=by
 unfold Fax Fbb Fba;simp only [lwi,out2,zC,zD,yH,nwi];show ∃v:Int×Int,(gB (gJ (dH m.Version 0 2047) _ _) _=_/\gJ (dH m.Version 0 2047) _ _=_/\_)
 cases hv:dH m.Version 0 2047 with
 |true=>exact⟨(0,9),rfl,rfl,λh=>by cases h⟩
 |false=>
  rw [zM,zM,yS,yS]
  by_cases c2:200<m.Params.length
  ·rw [if_pos (by omega),if_pos (by omega)];exact⟨(0,3),rfl,rfl,λh=>by cases h⟩
  rw [if_neg (by omega),if_neg (by omega),chkL1 m d,chkR1 m d];rcases aO (aQf m.Params) m.Params 0 with ⟨j,x,v,h1,e,f⟩|⟨h1,f⟩
  ·rw [f,f];unfold aQf at e;split at e
   ·split at e
    ·cases e
     refine⟨(((0+j:Nat):Int),5),?_,rfl,λh=>by cases h⟩;rw [zC,Int.max_eq_left (by omega)]
    ·cases e
   ·rename_i c
    cases e
    refine⟨(((0+j:Nat):Int),pI x),?_,rfl,λh=>absurd h c⟩;rw [zC,Int.max_eq_left (by omega)]
  rw [f,f];have g: ∀(j:Nat) (x:Param),m.Params[j]? =some x->pI x=0/\(m.Params.take j).any (λy=>decide (y.Name=x.Name))=false:=by
   intro j x i;have:=h1 j x i;unfold aQf at this;split at this
   ·rename_i c;rw [Nat.zero_add]at this;split at this
    ·cases this
    ·rename_i n;exact⟨c,by simpa using n⟩
   ·cases this
  have a: ∀p∈m.Params,qR p:=by
   intro p l;obtain⟨j,i,rfl⟩:=List.mem_iff_getElem.1 l;exact jI (g j _ (gE i)).1
  rw [chkL2 m d a,chkR3 m d a];rcases aZz m.Params 0 0 (by omega) (by omega) (λp l=>bT (a p l).tm 0)with ⟨v,g1,g2,g3⟩|⟨g3,g4⟩
  ·rw [g3,g3];refine⟨v,?_,rfl,λh=>absurd h g1⟩;rw [zC];show some (max v.1 0,v.2)=_;rw [Int.max_eq_left g2]
  rw [g3,g3,chkL3 m d a,chkR4 m d a];rcases tk_two m.Params 0 [] [] (λ_=>rfl)with ⟨v,g1,g2,g5⟩|g5
  ·rw [(g5 _ none).1,(g5 none _).2];refine⟨v,?_,rfl,λh=>absurd h g1⟩;rw [zC];show some (max v.1 0,v.2)=_;rw [Int.max_eq_left g2]
  ·rw [(g5 _ none).1,(g5 none _).2];have k:=pF.1 hv;exact⟨(0,0),rfl,rfl,λ_=>⟨rfl,by omega,k.1,k.2,a,λj x i=>(g j x i).2,by omega⟩⟩
def kws:List Str:=[[112,104,97,115,101],[109,111,118,101],[114,117,108,101],[105,102],[111,114],[97,110,100],[116,114,117,101],[102,97,108,115,101],[115,116,101,97,100,121],[110,111,116],[102,111,114],[119,105,116,104,105,110],[99,111,117,110,116],[111,102],[114,105,115,101,115],[115,105,110,99,101]]
theorem ewithin (a b c:Int):Fai a b c=some (decide (b<=a)&&decide (a<=c)):=by
 unfold Fai;simp only [zD,dY,zC]
def isW (s:Str):Bool:=decide (s∈kws)
theorem isWord_eq (s:Str):Fbq s=some (isW s):=by
 unfold Fbq isW kws;simp only [zD,aZh,zC,iteB_id,List.mem_cons,List.not_mem_nil,or_false,Bool.decide_or]
def nmB (c:Int):Bool:=(decide (97<=c)&&decide (c<=122))||(decide (48<=c)&&decide (c<=57))||decide (c=45)
theorem aTa (c:Int):Fbd c=some (nmB c):=by
 unfold Fbd nmB;simp only [zD];cases decide (97<=c)<;>cases decide (c<=122)<;>cases decide (48<=c)<;>cases decide (c<=57)<;>cases decide (c=45)<;>rfl
def aMm:Nat->UInt8->Bool:=λ_ c=> !nmB (c.toNat:Int)
theorem isName_L1 (s:Str) (a:okS s) (k:Unit->Option Bool):Fft s k (s.length:Int) 0=if rC aMm s 0=true then some false else k ():=by
 unfold Fft;rw [xQ s (λi c=>if aMm i c=true then some (some false)else none) (k ()) a];exact tJ aMm (some false) (k ()) s 0;intro b i c d hi;unfold aMm;simp only [zD];rw [yD hi,zT,aBt d,zC,aTa,zC];cases nmB (c.toNat:Int);rfl;simp only [Bool.not_true,zM];rw [fJ hi a];rfl;intro b;simp only [zD];rw [yE];rfl
def aEz (s:Str):Bool:=match s with
 | []=>false
 |c::_=>decide (97<=(c.toNat:Int))&&decide ((c.toNat:Int)<=122)
def aGl (s:Str):Bool:=decide (s.length<=30)&&aEz s&& !isW s&& !rC aMm s 0
theorem isName_eq (s:Str)(a:okS s):Fak s=some (aGl s):=by
 unfold Fak aGl;simp only [zD,zC,ewithin,yH,isName_L1 s a,isWord_eq]
 cases s with
 |nil=>rfl
 |cons c l=>
  have b:byte' (c::l) 0=some (c.toNat:Int):=aBt (i:=0) rfl;have h1:decide ((1:Int)<=((c::l).length:Int))=true:=dT (by simp;omega);have d:decide (((c::l).length:Int)<=30)=decide ((c::l).length<=30):=decide_eq_decide.2 (by omega);have e:decide ((c.toNat:Int)<97)= !decide (97<=(c.toNat:Int)):=by rw [<-decide_not];exact decide_eq_decide.2 (by omega)
  have f:decide (122<(c.toNat:Int))= !decide ((c.toNat:Int)<=122):=by rw [<-decide_not];exact decide_eq_decide.2 (by omega)
  rw [b,h1,d];simp only [zC,Bool.true_and,e,f,aEz]
  cases decide ((c::l).length<=30)<;>cases decide (97<=(c.toNat:Int))<;>cases decide ((c.toNat:Int)<=122)<;>cases isW (c::l)<;>cases rC aMm (c::l) 0<;>rfl
theorem IsName_eq (s:Str)(a:okS s):Fdh s=some (aGl s):=by
 unfold Fdh;rw [isName_eq s a];rfl
theorem aTl (s:Str):Fdy s=some (isW s):=by
 unfold Fdy Fgq;simp only [zD,zC,yH];change Fgo s kws (λ_=>some false) 0=_;unfold Fgo;rw [xQ kws (λ_ x=>if decide (x=s)=true then some (some true)else none) (some false) (by decide)]
 ·rw [tJ (λ_ x=>decide (x=s))];have e:rC (λ_ x=>decide (x=s)) kws 0=isW s:=by
   rw [Bool.eq_iff_iff,aSb];unfold isW;simp only [decide_eq_true_eq];constructor
   ·rintro⟨j,x,h,rfl⟩;exact qS h
   ·intro h;obtain⟨j,a⟩:=List.getElem?_of_mem h;exact⟨j,s,a,rfl⟩
  rw [e];cases isW s<;>rfl
 ·intro b _ c d hi;simp only [zD];rw [yD hi,zT,yO d,zC]
  cases decide (c=s)
  ·simp only [zM];rw [fJ hi (by decide)];rfl
  ·rfl
 ·intro b;simp only [zD];rw [yE];rfl
def badR:Nat->UInt8->Bool:=λi c=> !((decide (97<=(c.toNat:Int))&&decide ((c.toNat:Int)<=122))||(decide (0<(i:Int))&&((decide (48<=(c.toNat:Int))&&decide ((c.toNat:Int)<=57))||decide ((c.toNat:Int)=45))))
theorem aYb (s:Str) (a:okS s) (k:Unit->Option Bool):Fgb s k 0=if rC badR s 0=true then some false else k ():=by
 unfold Fgb;rw [xQ s (λi c=>if badR i c=true then some (some false)else none) (k ()) a];exact tJ badR (some false) (k ()) s 0;intro b i c d hi;unfold badR;simp only [zD];rw [yD hi,zT,aBt d,zC];rw [fJ hi a];cases decide (97<=(c.toNat:Int))<;>cases decide ((c.toNat:Int)<=122)<;>cases decide (0<(i:Int))<;>cases decide (48<=(c.toNat:Int))<;>cases decide ((c.toNat:Int)<=57)<;>cases decide ((c.toNat:Int)=45)<;>rfl;intro b;simp only [zD];rw [yE];rfl
theorem aKs (s:Str)(a:okS s):Fbt s=some (aGl s):=by
 unfold Fbt aGl;simp only [zD,zC,yH,aYb s a,aTl]
 cases s with
 |nil=>rfl
 |cons c l=>
  have b:decide (((c::l).length:Int)<=30)=decide ((c::l).length<=30):=decide_eq_decide.2 (by omega);have d:decide ((c::l)≠[])=true:=by simp
  have e:rC badR l (0+1)=rC aMm l (0+1):=aMd l (0+1) λj _ _=>by
   have:decide (0<((0+1+j:Nat):Int))=true:=dT (by omega);unfold badR aMm nmB;rw [this];simp only [Bool.true_and,Bool.or_assoc]
  rw [rC,rC,e,b,d];have f:badR 0 c= !(decide (97<=(c.toNat:Int))&&decide ((c.toNat:Int)<=122)):=by unfold badR;simp
  have g:aMm 0 c= !(aEz (c::l)||(decide (48<=(c.toNat:Int))&&decide ((c.toNat:Int)<=57))||decide ((c.toNat:Int)=45)):=rfl;have h:badR 0 c= !aEz (c::l):=f;rw [g,h]
  cases aEz (c::l)<;>cases rC aMm l (0+1)<;>cases decide ((c::l).length<=30)<;>cases isW (c::l)<;>simp [gJ,gB]
end Go.Lf
