/- Laws that the claim stands on; no condition beyond those stated. -/
import Derived.Test.YtbjofgmdhbiekaaGreatDoorUP
import Derived.Test.YtbjofgmdhbiekaaGreatDoorPLb
namespace Go.Lf
open Go.RowKit Go.OB
theorem nwi (a n b:Int):(!(decide (a<=n)&&decide (n<=b)))=(decide (n<a)||decide (b<n)):=by
 by_cases c:a<=n<;>by_cases d:n<=b;simp [c,d,Int.not_lt.2 c,Int.not_lt.2 d];simp [c,d,Int.not_le.1 d];simp [c,d,Int.not_le.1 c];simp [c,d,Int.not_le.1 c]
theorem lwi (n a b:Int):Faf n a b=some (decide (a<=n)&&decide (n<=b)):=by
 unfold Faf;simp only [zK,dW,zC]
theorem fwi (n a b:Int):Fa5 n a b=some (decide (a<=n)&&decide (n<=b)):=by
 unfold Fa5;simp only [zK,dW,zC]
theorem swi (n a b:Int):Fab n a b=some (decide (a<=n)&&decide (n<=b)):=by
 unfold Fab;simp only [zK,dW,zC]
theorem vwi (n a b:Int):Fbp n a b=some (decide (a<=n)&&decide (n<=b)):=by
 unfold Fbp;simp only [zK,dW,zC]
theorem out2 (n a b:Int):Fac n a b=some (decide (n<a)||decide (b<n)):=by
 unfold Fac;simp only [zK,wB,zC]
theorem out5 (n a b:Int):Faa n a b=some (decide (n<a)||decide (b<n)):=by
 unfold Faa;simp only [zK,wB,zC]
theorem out7 (n a b:Int):Fao n a b=some (decide (n<a)||decide (b<n)):=by
 unfold Fao;simp only [zK,wB,zC]
def wW (x:Nat):Bool:=decide (97<=x)&&decide (x<=122)
def vN:Str->Bool
 | []=>false
 |c::t=>decide (t.length<30)&&(wW c.toNat&&t.all λc=>aS c.toNat)
theorem low_nm {x:Nat}(h:wW x=true):aS x=true:=by
 unfold wW at h;unfold aS;rw [h];rfl
theorem aSv (s:Str):Fbl s=some (vN s):=by
 cases s with
 |nil=>rfl
 |cons c t=>
  unfold Fbl vN Fha;simp only [zK,List.length_cons,show byte' (c::t) 0=some (c.toNat:Int)from aBk (s:=c::t) (i:=0) rfl,zC,wB];have a:decide (((t.length+1:Nat):Int)<1)=false:=qD (by omega);rw [a];simp only [Bool.false_or];have b:(decide ((c.toNat:Int)<97)||decide (122<(c.toNat:Int)))= !wW c.toNat:=by
   unfold wW;have:=nwi 97 (c.toNat:Int) 122;rw [<-this]
   congr 2
   ·exact decide_eq_decide.2 (by omega)
   ·exact decide_eq_decide.2 (by omega)
  rw [Bool.or_assoc,b];have d:(!(c::t).any λc=> !aS c.toNat)=(c::t).all λc=>aS c.toNat:=by
   rw [List.any_eq_not_all_not];simp
  rw [d,List.all_cons];have e:decide (30<((t.length+1:Nat):Int))= !decide (t.length<30):=by
   by_cases h:t.length<30
   ·rw [dT h];exact qD (by omega)
   ·rw [qD h];exact dT (by omega)
  rw [e]
  cases h1:decide (t.length<30)with
  |false=>rfl
  |true=>
   cases h2:wW c.toNat with
   |false=>rfl
   |true=>rw [low_nm h2];rfl
theorem aSm (s:Str) (d:s.length<=9223372036854775807):Fbi s=some (vN s):=by
 unfold Fbi Fje;rw [yO];rw [xY s (λi c=>if (!(wW c.toNat||(decide (0<i)&&aS c.toNat)))=true then some (some false)else none) (some (decide (1<=(s.length:Int))&&decide ((s.length:Int)<=30))) d]
 ·rw [uD]
  cases s with
  |nil=>rfl
  |cons c t=>
   have e:qR (λi (c:UInt8)=> !(wW c.toNat||(decide (0<i)&&aS c.toNat))) (c::t) 0= !(wW c.toNat&&t.all λc=>aS c.toNat):=by
    rw [qR];have f: ∀(l:List UInt8) (i:Nat),qR (λi (c:UInt8)=> !(wW c.toNat||(decide (0<i)&&aS c.toNat))) l (i+1)= !(l.all λc=>aS c.toNat):=by
     intro l
     induction l with
     |nil=>intro i;rfl
     |cons x l g=>
      intro i;rw [qR,g,List.all_cons];have:(wW x.toNat||(decide (0<i+1)&&aS x.toNat))=aS x.toNat:=by
       rw [dT (Nat.succ_pos i),Bool.true_and]
       cases h:wW x.toNat with
       |false=>rfl
       |true=>rw [low_nm h];rfl
      rw [this]
      cases aS x.toNat<;>rfl
    rw [f];simp only [Nat.lt_irrefl,decide_false,Bool.false_and,Bool.or_false]
    cases wW c.toNat<;>rfl
   rw [e,show vN (c::t)=(decide (t.length<30)&&(wW c.toNat&&t.all λc=>aS c.toNat))from rfl];have a:decide (1<=(((c::t).length:Nat):Int))=true:=dT (by rw [List.length_cons];omega);have b:decide ((((c::t).length:Nat):Int)<=30)=decide (t.length<30):=decide_eq_decide.2 (by rw [List.length_cons];omega);rw [a,b]
   cases wW c.toNat<;>cases(t.all λc=>aS c.toNat)<;>cases decide (t.length<30)<;>rfl
 ·intro k i c j hi;simp only [zK,yK hi,zU,aBk j,zC,dW];have a:(decide (97<=(c.toNat:Int))&&decide ((c.toNat:Int)<=122))=wW c.toNat:=by
   unfold wW;congr 1<;>exact decide_eq_decide.2 (by omega)
  have b:decide (0<(i:Int))=decide (0<i):=decide_eq_decide.2 (by omega);rw [a,b];have m:gJ (decide (48<=(c.toNat:Int))&&decide ((c.toNat:Int)<=57)) (some false) (some !decide ((c.toNat:Int)=45))=some !((decide (48<=c.toNat)&&decide (c.toNat<=57))||decide (c.toNat=45)):=by
   have n:decide (48<=(c.toNat:Int))=decide (48<=c.toNat):=decide_eq_decide.2 (by omega);have a2:decide ((c.toNat:Int)<=57)=decide (c.toNat<=57):=decide_eq_decide.2 (by omega);have a3:decide ((c.toNat:Int)=45)=decide (c.toNat=45):=decide_eq_decide.2 (by omega);rw [n,a2,a3]
   cases(decide (48<=c.toNat)&&decide (c.toNat<=57))<;>rfl
  rw [m,fQ hi d];have o:aS c.toNat=(wW c.toNat||((decide (48<=c.toNat)&&decide (c.toNat<=57))||decide (c.toNat=45))):=by
   unfold aS wW;rw [Bool.or_assoc]
  rw [o];generalize wW c.toNat=b1;generalize ((decide (48<=c.toNat)&&decide (c.toNat<=57))||decide (c.toNat=45))=b2;generalize decide (0<i)=b3
  cases b1<;>cases b2<;>cases b3<;>rfl
 ·intro k;simp only [zK,yN,zQ,dW,zC]
theorem xO {b β:Type}{body:(b->Option β)->b->Option β}(a:Nat->b)(n:Nat){g0:b}{r:Option β}(c:n<=9223372036854775807)(d:g0=a 0)
    (h: ∀k i,i<n->body k (a i)=k (a (i+1)))(e: ∀k,body k (a n)=r):gY body g0=r:=by
 subst d;have:=loopO_at (body:=body) a (List.replicate n ()) r (by simpa using c) (λk i _ _ hi=>h k i (by simpa using hi)) (λk=>by rw [List.length_replicate];exact e k);exact this
theorem bF {a:Type}{l:List a}{i:Nat}{x:a}(h:l[i]? =some x):l.take (i+1)=l.take i++[x]:=by
 rw [List.take_add_one,h];rfl
def aLs {a:Type}(p:a->Bool):List a->Nat->Int
 | [],_=> -1
 |x::l,i=>if p x=true then(i:Int)else aLs p l (i+1)
theorem qA {a:Type}(p:a->Bool): ∀(l:List a) (i:Nat),decide (0<=aLs p l i)=l.any p
 | [],_=>rfl
 |x::l,i=>by
  rw [aLs,List.any_cons]
  cases h:p x with
  |true=>rw [if_pos rfl,Bool.true_or];exact dT (by omega)
  |false=>rw [if_neg (by decide),Bool.false_or];exact qA p l (i+1)
theorem jS {a:Type}{body:(Int->Option Int)->Int->Option Int}(l:List a)(p:a->Bool)(b:l.length<=9223372036854775807)
  (h: ∀k (i:Nat) x,l[i]? =some x->i<l.length->body k (i:Int)=gJ (p x) (some (i:Int)) (k ((i+1:Nat):Int)))(c: ∀k,body k (l.length:Int)=some (-1)):gY body 0=some (aLs p l 0):=by
 rw [xY l (λi x=>if p x=true then some (some (i:Int))else none) (some (-1)) b (λk i x d e=>by rw [h k i x d e];cases p x<;>rfl) c];have: ∀(l:List a) (i:Nat),cZ (λi x=>if p x=true then some (some (i:Int))else none) (some (-1)) l i=some (aLs p l i):=by
  intro l
  induction l with
  |nil=>intro i;rfl
  |cons x l f=>
   intro i;rw [cZ,aLs]
   cases p x with
   |true=>rfl
   |false=>exact f (i+1)
 exact this l 0
theorem contI_eq (l:List Int)(c:Int)(a:l.length<=9223372036854775807):Fc5 l c=some (l.any λy=>decide (c=y)):=by
 unfold Fc5 Fhk Fkd;rw [yO,zK,jS l (λy=>decide (c=y)) a (λk _ _ d b=>by simp only [zK,yK b,zU,yY d,zC,fQ b a]) (λk=>by simp only [zK,yN,zQ]),zC,zK,qA]
theorem contS_eq (l:List Str)(c:Str)(a:l.length<=9223372036854775807):Fas l c=some (l.any λy=>decide (c=y)):=by
 unfold Fas Fd8 Fkr;rw [yO,zK,jS l (λy=>decide (c=y)) a (λk _ _ d b=>by simp only [zK,yK b,zU,yY d,zC,fQ b a]) (λk=>by simp only [zK,yN,zQ]),zC,zK,qA]
theorem contM_eq (l:List Param)(c:Param)(a:l.length<=9223372036854775807):Fcy l c=some (l.any λy=>decide (y.Name=c.Name)):=by
 unfold Fcy Ff6 Fii;rw [yO,zK,jS l (λy=>decide (y.Name=c.Name)) a (λk _ _ d b=>by simp only [zK,yK b,zU,yY d,zC,fQ b a,Fe8]) (λk=>by simp only [zK,yN,zQ]),zC,zK,qA]
theorem contP_eq (l:List Part)(c:Int)(a:l.length<=9223372036854775807):Fd6 l c=some (l.any λy=>decide (16<=IntKind.i64.wrap (c+y.Frame))):=by
 unfold Fd6 Fhd Fkb;rw [yO,zK,jS l (λy=>decide (16<=IntKind.i64.wrap (c+y.Frame))) a (λk _ _ d b=>by simp only [zK,yK b,zU,yY d,zC,fQ b a,Ff2]) (λk=>by simp only [zK,yN,zQ]),zC,zK,qA]
theorem aZ {a β:Type}{body:(Int->Option β)->Int->Option β}(l:List a)(p:a->Bool)(r fin:Option β)(b:l.length<=9223372036854775807)
  (h: ∀k (i:Nat) x,l[i]? =some x->i<l.length->body k (i:Int)=gJ (p x) r (k ((i+1:Nat):Int)))(c: ∀k,body k (l.length:Int)=fin):gY body 0=gJ (l.any p) r fin:=by
 rw [xY l (λ_ x=>if p x=true then some r else none) fin b (λk i x d e=>by rw [h k i x d e];cases p x<;>rfl) c];have: ∀(l:List a) (i:Nat),cZ (λ_ x=>if p x=true then some r else none) fin l i=gJ (l.any p) r fin:=by
  intro l
  induction l with
  |nil=>intro i;rfl
  |cons x l f=>
   intro i;rw [cZ,List.any_cons]
   cases p x with
   |true=>rfl
   |false=>exact f (i+1)
 exact this l 0
theorem any_loopF {c β:Type}{body:(Int->Option β)->Int->Option β}(l:List c)(p:c->Bool)(r fin:Option β)(f:l.length<=9223372036854775807)
  (h: ∀k (i:Nat) x,l[i]? =some x->i<l.length->body k (i:Int)=gJ (p x) r (k ((i+1:Nat):Int)))(g:l.any p=false-> ∀k,body k (l.length:Int)=fin):gY body 0=gJ (l.any p) r fin:=by
 have b: ∀(d i n:Nat),i+d=l.length->d<n->(l.take i).any p=false->bZ body n (i:Int)=gJ (l.any p) r fin:=by
  intro d
  induction d with
  |zero=>
   intro i n j o a;obtain⟨m,rfl⟩: ∃m,n=m+1:=⟨n-1,by omega⟩;obtain rfl:i=l.length:=by omega
   rw [List.take_length]at a;rw [bZ,g a,a];rfl
  |succ d q=>
   intro i n j o a;obtain⟨m,rfl⟩: ∃m,n=m+1:=⟨n-1,by omega⟩;have hi:i<l.length:=by omega
   have e:l[i]? =some l[i]:=gE hi;rw [bZ,h _ i _ e hi]
   cases hp:p l[i]with
   |true=>
    have:l.any p=true:=List.any_eq_true.2 ⟨l[i],List.getElem_mem hi,hp⟩;rw [this];rfl
   |false=>
    refine q (i+1) m (by omega) (by omega) ?_;rw [bF e,List.any_append,a,List.any_cons,hp];rfl
 exact b l.length 0 FU (by omega) (aAv f) rfl
def mY (l:List Part):Int:=l.foldl (λs x=>IntKind.i64.wrap (s+x.Bits)) 0
theorem aMl {a β σ:Type}{body:(σ×Int->Option β)->σ×Int->Option β}(l:List a)(f:σ->a->σ)(fin:σ->Option β)(s:σ)(b:l.length<=9223372036854775807)
  (h: ∀k (i:Nat) s x,l[i]? =some x->i<l.length->body k (s,(i:Int))=k (f s x,((i+1:Nat):Int)))(c: ∀k s,body k (s,(l.length:Int))=fin s):gY body (s,0)=fin (l.foldl f s):=
 aLn (λ(i:Nat) (s:σ)=>(s,(i:Int))) l f fin b h c s
theorem aPl (p:Param)(a:p.Parts.length<=9223372036854775807):Faz p=some (mY p.Parts):=by
 unfold Faz Fh3;rw [zK,aMl p.Parts (λs x=>IntKind.i64.wrap (s+x.Bits)) (λs=>some s) 0 a (λk _ s x c b=>by simp only [zK,yK b,zU,yY c,zC,fQ b a]) (λk s=>by simp only [zK,yN,zQ])];rfl
theorem aPi (p:Param)(a:p.Parts.length<=9223372036854775807):Fa9 p=some (mY p.Parts):=aPl p a
def cO (n a b:Int):Bool:=decide (n<a)||decide (b<n)
theorem aBm {n a b:Int}:cO n a b=false↔a<=n/\n<=b:=by
 unfold cO;simp only [Bool.or_eq_false_iff,decide_eq_false_iff_not];omega
def kL (x:Part):Bool:=((cO x.Frame 0 15||cO x.Word 4 60)||cO x.Low 0 10)||cO x.Bits 1 (IntKind.i64.wrap (11-x.Low))
def pfM (p:Param):Int:=if p.Parts.length=0 then 13 else if 8<p.Parts.length then 3 else if p.Parts.any kL=true then 9 else if 40<mY p.Parts then 3 else 0
theorem pf_2 (p:Param) (a:p.Parts.length<=9223372036854775807):Fcm p=some (pfM p):=by
 unfold Fcm pfM Fja;have c:((8:Int)<(p.Parts.length:Int))↔8<p.Parts.length:=by omega
 have d:((p.Parts.length:Int)=0)↔p.Parts.length=0:=by omega
 repeat (first |rw [zK]|rw [yO]|rw [zC])
 rw [aZ p.Parts kL (some 9) (if 40<mY p.Parts then some 3 else some 0) a]
 ·simp only [yX,c,d];split
  ·rfl
  ·split
   ·rfl
   ·cases p.Parts.any kL with
    |true=>rfl
    |false=>simp only [zQ,Bool.false_eq_true,if_false];split<;>rfl
 ·intro k _ _ e b;simp only [zK,yK b,zU,yY e,zC,fQ b a,out2,wB];rfl
 ·intro k;simp only [zK,yN,zQ,aPi p a,zC,yX]
theorem aKa {x:Part}(h:kL x=false):0<=x.Frame/\x.Frame<=15/\4<=x.Word/\x.Word<=60/\0<=x.Low/\x.Low<=10/\1<=x.Bits/\x.Low+x.Bits<=11:=by
 unfold kL at h;simp only [Bool.or_eq_false_iff,aBm]at h;obtain⟨⟨⟨_,_⟩,_⟩,a⟩:=h;rw [Go.OB.wrap_i64 (by omega) (by omega)]at a;omega
def uV (p:Param):Bool:= !(decide (p.Every=1)||(decide (p.Every=2)||(decide (p.Every=4)||(decide (p.Every=8)||decide (p.Every=16)))))||(cO p.First 0 (p.Every-1)||(cO p.Times 1 57||(decide (p.Step<0)|| !(decide (p.Step=0)==decide (p.Times=1)))))
def qY (p:Param)(x:Part):Bool:=decide (57<p.Step)||decide (60<x.Word+(p.Times-1)*p.Step)
def tfM (p:Param):Int:=if uV p=true then 9 else if p.Parts.any (λx=>qY p x)=true then 9 else 0
structure bY (p:Param):Prop where
 ev:p.Every=1\/p.Every=2\/p.Every=4\/p.Every=8\/p.Every=16
 f0:0<=p.First
 f1:p.First<p.Every
 t1:1<=p.Times
 t2:p.Times<=57
 s0:0<=p.Step
 s1:p.Step=0↔p.Times=1
theorem aOz {p:Param}(h:uV p=false):bY p:=by
 unfold uV at h;simp only [Bool.or_eq_false_iff,aBm,Bool.not_eq_false',Bool.or_eq_true,decide_eq_true_eq,decide_eq_false_iff_not,beq_iff_eq,decide_eq_decide]at h;obtain⟨a,⟨b,_⟩,⟨c,d⟩,_,e⟩:=h;exact⟨a,b,by omega,c,d,by omega,e⟩
theorem every_l (n:Int):([1,2,4,8,16]:List Int).any (λy=>decide (n=y))=(decide (n=1)||(decide (n=2)||(decide (n=4)||(decide (n=8)||decide (n=16))))):=by
 simp only [List.any_cons,List.any_nil,Bool.or_false]
theorem prod_le {a b:Int}(d:0<=a)(e:a<=56)(c:0<=b)(f:b<=60):0<=a*b/\a*b<=3360:=by
 refine⟨Int.mul_nonneg d c,?_⟩;have:=Int.mul_le_mul e f c (by omega:(0:Int)<=56);omega
structure pO (p:Param):Prop where
 n1:1<=p.Parts.length
 n8:p.Parts.length<=8
 all: ∀x∈p.Parts,kL x=false
 sum:mY p.Parts<=40
theorem aNi {p:Param} (h:pfM p=0):pO p:=by
 unfold pfM at h;split at h
 ·cases h
 ·split at h
  ·cases h
  ·split at h
   ·cases h
   ·split at h
    ·cases h
    ·rename_i _ _ a _;refine⟨by omega,by omega,λx b=>?_,by omega⟩
     cases hb:kL x with
     |false=>rfl
     |true=>exact absurd (List.any_eq_true.2 ⟨x,b,hb⟩) a
theorem aXo (p:Param):(!(decide (p.Every=1)||(decide (p.Every=2)||(decide (p.Every=4)||(decide (p.Every=8)||decide (p.Every=16)))))||(decide (p.First<0)||decide (IntKind.i64.wrap (p.Every-1)<p.First))||(decide (p.Times<1)||decide (57<p.Times))||decide (p.Step<0)|| !(decide (p.Step=0)==decide (p.Times=1)))=uV p:=by
 unfold uV cO
 by_cases a:(decide (p.Every=1)||(decide (p.Every=2)||(decide (p.Every=4)||(decide (p.Every=8)||decide (p.Every=16)))))=true
 ·have:IntKind.i64.wrap (p.Every-1)=p.Every-1:=by
   simp only [Bool.or_eq_true,decide_eq_true_eq]at a;exact Go.OB.wrap_i64 (by omega) (by omega)
  rw [this];simp only [Bool.or_assoc]
 ·rw [Bool.not_eq_true]at a;rw [a];rfl
theorem aFy {b:Type}{p q:b->Bool}{l:List b}(h: ∀x∈l,p x=q x):l.any p=l.any q:=by
 rw [Bool.eq_iff_iff,List.any_eq_true,List.any_eq_true];constructor<;>rintro⟨x,a,_⟩;exact⟨x,a,by rwa [<-h x a]⟩;exact⟨x,a,by rwa [h x a]⟩
theorem aTo {p:Param}{x:Part} (a:bY p) (d:kL x=false):(decide (60<p.Step)||decide (60<IntKind.i64.wrap (x.Word+IntKind.i64.wrap (IntKind.i64.wrap (p.Times-1)*p.Step))))=qY p x:=by
 have e:=aKa d;have t1:=a.t1;have t2:=a.t2;unfold qY;rw [Go.OB.wrap_i64 (by omega: -9223372036854775808<=p.Times-1) (by omega)]
 by_cases c:p.Step<=60
 ·have f:=prod_le (by omega:0<=p.Times-1) (by omega) a.s0 c;rw [Go.OB.wrap_i64 (n:=(p.Times-1)*p.Step) (by omega) (by omega),Go.OB.wrap_i64 (by omega) (by omega)]
  by_cases b:57<p.Step
  ·have:1<p.Times:=by have:=a.s1;omega
   have g:p.Step<=(p.Times-1)*p.Step:=by
    have:=Int.mul_le_mul_of_nonneg_right (by omega:(1:Int)<=p.Times-1) a.s0;omega
   rw [dT b,dT (by omega:60<x.Word+(p.Times-1)*p.Step)];simp
  ·rw [qD b,qD (by omega: ¬60<p.Step)]
 ·rw [dT (by omega:60<p.Step),dT (by omega:57<p.Step)];rfl
theorem last_2 {p:Param}{x:Part} (a:bY p) (b:kL x=false):((decide (1<p.Times)&&decide (57<p.Step))||decide (60<IntKind.i64.wrap (x.Word+IntKind.i64.wrap (IntKind.i64.wrap (p.Times-1)*p.Step))))=qY p x:=by
 rw [<-aTo a b];have e:=aKa b;have t1:=a.t1;have t2:=a.t2;by_cases c:57<p.Step;have d:1<p.Times:=by have:=a.s1;omega
 rw [aTo a b];unfold qY;rw [dT c,dT d];rfl;rw [qD c,qD (by omega: ¬60<p.Step),Bool.and_false]
theorem pf_l (p:Param) (c:p.Parts.length<=9223372036854775807):Fed p=some (if pfM p=0 then tfM p else pfM p):=by
 unfold Fed Fj2;have g:((8:Int)<(p.Parts.length:Int))↔8<p.Parts.length:=by omega
 have h:((p.Parts.length:Int)=0)↔p.Parts.length=0:=by omega
 repeat (first |rw [zK]|rw [yO]|rw [zC])
 simp only [yX,g,h]
 by_cases a:p.Parts.length=0
 ·rw [if_pos a,show pfM p=13 by unfold pfM;rw [if_pos a]];rfl
 rw [if_neg a]
 by_cases c2:8<p.Parts.length
 ·rw [if_pos c2,show pfM p=3 by unfold pfM;rw [if_neg a,if_pos c2]];rfl
 rw [if_neg c2];rw [any_loopF p.Parts kL (some 9) (if 40<mY p.Parts then some 3 else some (tfM p)) c]
 ·cases c3:p.Parts.any kL with
  |true=>rw [show pfM p=9 by unfold pfM;rw [if_neg a,if_neg c2,if_pos c3]];rfl
  |false=>
   rw [zQ]
   by_cases c4:40<mY p.Parts
   ·rw [if_pos c4,show pfM p=3 by unfold pfM;rw [if_neg a,if_neg c2,c3,if_neg (by decide),if_pos c4]];rfl
   ·rw [if_neg c4,show pfM p=0 by unfold pfM;rw [if_neg a,if_neg c2,c3,if_neg (by decide),if_neg c4]];rfl
 ·intro k i x e d;simp only [zK,yK d,zU,yY e,zC,fQ d c,lwi,wB,nwi];rfl
 ·intro c3 k;have b: ∀x∈p.Parts,kL x=false:=λx f=>by
   cases hb:kL x with
   |false=>rfl
   |true=>rw [List.any_eq_true.2 ⟨x,f,hb⟩]at c3;cases c3
  simp only [zK,yN,zQ,aPl p c,zC,yX]
  by_cases c4:40<mY p.Parts
  ·rw [if_pos c4,if_pos c4]
  rw [if_neg c4,if_neg c4];simp only [contI_eq _ _ (by decide:([1,2,4,8,16]:List Int).length<=9223372036854775807),zC,lwi,nwi,wB,every_l];have j:=aXo p;rw [j]
  cases hb:uV p with
  |true=>rw [tfM,hb];rfl
  |false=>
   rw [zQ];have m:=aOz hb;unfold Fh1;rw [aZ p.Parts (λx=>decide (60<p.Step)||decide (60<IntKind.i64.wrap (x.Word+IntKind.i64.wrap (IntKind.i64.wrap (p.Times-1)*p.Step)))) (some 9) (some 0) c]
   ·rw [tfM,hb,aFy (λx f=>aTo m (b x f)),if_neg (by decide)]
    cases(p.Parts.any λx=>qY p x)<;>rfl
   ·intro k i x e d;simp only [zK,yK d,zU,yY e,zC,fQ d c,wB]
   ·intro k;simp only [zK,yN,zQ]
theorem tf_2 (p:Param) (c:p.Parts.length<=9223372036854775807) (a: ∀x∈p.Parts,kL x=false):Fds p=some (tfM p):=by
 unfold Fds;simp only [zK,zC,out2,wB];have e:(gJ (decide (p.Every=1)) (some (decide (p.Every=1))) (gJ (decide (p.Every=2)) (some (decide (p.Every=2))) (gJ (decide (p.Every=4)) (some (decide (p.Every=4))) (gJ (decide (p.Every=8)) (some (decide (p.Every=8))) (some (decide (p.Every=16)))))))=some (decide (p.Every=1)||(decide (p.Every=2)||(decide (p.Every=4)||(decide (p.Every=8)||decide (p.Every=16))))):=by
  simp only [aWw]
 rw [e,zC];have b:=aXo p
 cases hE:(decide (p.Every=1)||(decide (p.Every=2)||(decide (p.Every=4)||(decide (p.Every=8)||decide (p.Every=16)))))with
 |false=>
  rw [hE]at b;rw [zQ,tfM,<-b];rfl
 |true=>
  rw [hE]at b;simp only [Bool.not_true,Bool.false_or]at b;rw [zU,b]
  cases hb:uV p with
  |true=>rw [tfM,hb];rfl
  |false=>
   rw [zQ,yO];have f:=aOz hb;unfold Fjf;rw [aZ p.Parts (λx=>(decide (1<p.Times)&&decide (57<p.Step))||decide (60<IntKind.i64.wrap (x.Word+IntKind.i64.wrap (IntKind.i64.wrap (p.Times-1)*p.Step)))) (some 9) (some 0) c]
   ·rw [tfM,hb,aFy (λx g=>last_2 f (a x g)),if_neg (by decide)]
    cases(p.Parts.any λx=>qY p x)<;>rfl
   ·intro k _ x h d;simp only [zK,yK d,zU,yY h,zC,fQ d c,wB,dW]
   ·intro k;simp only [zK,yN,zQ]
def kcM (K B:Int):Bool:=((decide (K=4)&&decide (B.tmod 4≠0))||(decide (K=5)&&decide (B≠1)))||((decide (K=2)||decide (K=3))&&decide (B=1))
def aUf:List Str->Int:=λl=>match cZ (λi x=>if vN x=true then(if (l.take i).any (λy=>decide (x=y))=true then some (some 5)else none)else some (some 8)) (some 0) l 0 with
 |some n=>n
 |none=>0
def kfM (p:Param):Int:=if kcM p.Kind (mY p.Parts)=true then 2 else if p.Kind≠6 then(if 0<p.Names.length then 2 else 0)else if p.Names.length=0 then 13 else if 64<p.Names.length\/(2:Int)^(mY p.Parts).toNat<p.Names.length then 3 else aUf p.Names
theorem aNt (l:List Str):cZ (λi x=>if vN x=true then(if (l.take i).any (λy=>decide (x=y))=true then some (some (5:Int))else none)else some (some 8)) (some 0) l 0=some (aUf l):=by
 have: ∀(m:List Str) (i:Nat),∃n,cZ (λi x=>if vN x=true then(if (l.take i).any (λy=>decide (x=y))=true then some (some (5:Int))else none)else some (some 8)) (some 0) m i=some n:=by
  intro m
  induction m with
  |nil=>intro i;exact⟨0,rfl⟩
  |cons x m d=>
   intro i;rw [cZ]
   by_cases a:vN x=true
   ·rw [if_pos a]
    by_cases b:(l.take i).any (λy=>decide (x=y))=true
    ·rw [if_pos b];exact⟨5,rfl⟩
    ·rw [if_neg b];exact d (i+1)
   ·rw [if_neg a];exact⟨8,rfl⟩
 obtain⟨n,c⟩:=this l 0;rw [c,aUf,c]
theorem aIp: ∀(l:List Part) (s:Int),(∀x∈l,kL x=false)->0<=s->s+11*l.length<=1000->l.foldl (λs x=>IntKind.i64.wrap (s+x.Bits)) s=s+(l.map Part.Bits).sum/\0<=(l.map Part.Bits).sum/\(l.map Part.Bits).sum<=11*l.length
 | [],s,_,_,_=>by simp
 |x::l,s,h,c,a=>by
  have d:=aKa (h x (List.mem_cons_self ..));rw [List.length_cons]at a;rw [List.foldl_cons,Go.OB.wrap_i64 (by omega) (by omega)];have:=aIp l (s+x.Bits) (λy b=>h y (List.mem_cons_of_mem _ b)) (by omega) (by omega);rw [this.1,List.map_cons,List.sum_cons,List.length_cons];omega
theorem aKx {p:Param}(h:pO p):1<=mY p.Parts:=by
 have a:=h.n1;have b:=h.n8;have:=aIp p.Parts 0 h.all (by omega) (by omega);unfold mY;rw [this.1]
 cases hp:p.Parts with
 |nil=>rw [hp]at a;simp at a
 |cons x l=>
  have d:=aKa (h.all x (by rw [hp];exact List.mem_cons_self ..));have e:=aIp l 0 (λy c=>h.all y (by rw [hp];exact List.mem_cons_of_mem _ c)) (by omega) (by rw [hp]at b;simp at b;omega);rw [List.map_cons,List.sum_cons];omega
theorem shl_1 {n:Int}(a:0<=n)(h:n<=40):jI .i64 1 n=some ((2:Int)^n.toNat):=by
 unfold jI;have e:(IntKind.i64.bits:Int)=64:=rfl;rw [if_pos ⟨a,by rw [e];omega⟩];have b:(2:Int)^n.toNat<=2^40:=by
  have:(2:Nat)^n.toNat<=2^40:=Nat.pow_le_pow_right (by decide) (by omega)
  exact_mod_cast this
 have c:(0:Int)<=2^n.toNat:=Int.pow_nonneg (by decide);rw [Int.one_mul,Go.OB.wrap_i64 (by omega) (by omega)]
theorem rem_4 (n:Int):kX n 4=some (n.tmod 4):=by unfold kX;rw [if_neg (by decide)]
theorem kf_l (p:Param) (h:p.Parts.length<=9223372036854775807) (d:p.Names.length<=9223372036854775807) (e:pO p):Fdw p=some (kfM p):=by
 have m:=aKx e;have b:=e.sum;unfold Fdw kfM;simp only [aPl p h,rem_4,shl_1 (by omega:0<=mY p.Parts) b,zC,zK,yO,dW,wB];show gJ (kcM p.Kind (mY p.Parts)) _ _=_
 cases kcM p.Kind (mY p.Parts)with
 |true=>rfl
 |false=>
  rw [zQ,if_neg (by decide),yX]
  by_cases a:p.Kind≠6
  ·rw [if_pos a,if_pos a,yX]
   by_cases c:0<p.Names.length
   ·rw [if_pos c,if_pos (by omega)]
   ·rw [if_neg c,if_neg (by omega)]
  rw [if_neg a,if_neg a,yX]
  by_cases c0:p.Names.length=0
  ·rw [if_pos c0,if_pos (by omega)]
  rw [if_neg c0,if_neg (by omega)]
  by_cases f:64<p.Names.length\/(2:Int)^(mY p.Parts).toNat<p.Names.length
  ·rw [if_pos f];have:(decide (64<(p.Names.length:Int))||decide ((2:Int)^(mY p.Parts).toNat<(p.Names.length:Int)))=true:=by
    rw [Bool.or_eq_true,decide_eq_true_eq,decide_eq_true_eq];omega
   rw [this];rfl
  rw [if_neg f];have:(decide (64<(p.Names.length:Int))||decide ((2:Int)^(mY p.Parts).toNat<(p.Names.length:Int)))=false:=by
   rw [Bool.or_eq_false_iff,decide_eq_false_iff_not,decide_eq_false_iff_not];omega
  rw [this,zQ,<-aNt];unfold Fij;refine xY p.Names _ _ d (λk i x j g=>?_) (λk=>by simp only [zK,yN,zQ]);simp only [zK,yK g,zU,yY j,zC,fQ g d,aSv,aCu p.Names (by omega:i<=p.Names.length)]
  cases vN x with
  |false=>rfl
  |true=>
   rw [if_pos rfl,contS_eq _ _ (by rw [List.length_take];omega)]
   cases((p.Names.take i).any λy=>decide (x=y))<;>rfl
theorem kf_2 (p:Param) (n:p.Parts.length<=9223372036854775807) (e:p.Names.length<=9223372036854775807) (o: ∀s∈p.Names,s.length<=9223372036854775807) (f:pO p):Fc8 p=some (kfM p):=by
 have t:=aKx f;have d:=f.sum;unfold Fc8 kfM;simp only [aPi p n,rem_4,shl_1 (by omega:0<=mY p.Parts) d,zC,zK,yO,dW,wB];show gJ (kcM p.Kind (mY p.Parts)) _ _=_
 cases kcM p.Kind (mY p.Parts)with
 |true=>rfl
 |false=>
  rw [zQ,if_neg (by decide),yX]
  by_cases b:p.Kind≠6
  ·rw [if_pos b,if_pos b,yX]
   by_cases c:0<p.Names.length
   ·rw [if_pos c,if_pos (by omega)]
   ·rw [if_neg c,if_neg (by omega)]
  rw [if_neg b,if_neg b,yX]
  by_cases c0:p.Names.length=0
  ·rw [if_pos c0,if_pos (by omega)]
  rw [if_neg c0,if_neg (by omega)]
  by_cases g:64<p.Names.length\/(2:Int)^(mY p.Parts).toNat<p.Names.length
  ·rw [if_pos g];have:(decide (64<(p.Names.length:Int))||decide ((2:Int)^(mY p.Parts).toNat<(p.Names.length:Int)))=true:=by
    rw [Bool.or_eq_true,decide_eq_true_eq,decide_eq_true_eq];omega
   rw [this];rfl
  rw [if_neg g];have:(decide (64<(p.Names.length:Int))||decide ((2:Int)^(mY p.Parts).toNat<(p.Names.length:Int)))=false:=by
   rw [Bool.or_eq_false_iff,decide_eq_false_iff_not,decide_eq_false_iff_not];omega
  rw [this,zQ,<-aNt];unfold Fkh;refine xY p.Names _ _ e (λk i x h m=>?_) (λk=>by simp only [zK,yN,zQ]);simp only [zK,yO,yK m,zU,yY h,zC,fQ m e,aSm x (o x (qS h)),aCu p.Names (by omega:i<=p.Names.length)]
  cases vN x with
  |false=>rfl
  |true=>
   rw [if_pos rfl];unfold Fko;have a:(p.Names.take i).length<=9223372036854775807:=by rw [List.length_take];omega
   rw [aZ (p.Names.take i) (λy=>decide (x=y)) (some 5) (k ((i+1:Nat):Int)) a (λq _ y g1 g2=>by simp only [zK,yK g2,zU,yY g1,zC,fQ g2 a]) (λq=>by simp only [zK,yN,zQ])]
   cases((p.Names.take i).any λy=>decide (x=y))<;>rfl
theorem jH {b:Type}{a:Nat}{l m:List b}(h:l.length+m.length<=100000000)(c:a<=1000):app' a l m=some (l++m):=by
 unfold app';rw [if_pos];have e:maxLen=9223372036854775807:=maxLen_eq;refine⟨by omega,?_⟩;have:=Nat.mul_le_mul h c;omega
def stL (p:Param):List Int:=(List.range (16/p.Every).toNat).map λ(k:Nat)=>p.First+(k:Int)*p.Every
def aDb (p:Param)(s:Int):Bool:= !(p.Parts.any λy=>decide (16<=IntKind.i64.wrap (s+y.Frame)))
def bU (p:Param):List Int:=(stL p).filter (aDb p)
def wO (p:Param)(s t:Int)(y:Part):fG:=fG.mk (IntKind.i64.wrap (s+y.Frame)) (IntKind.i64.wrap (y.Word+IntKind.i64.wrap (t*p.Step))) y.Low y.Bits
def bI (p:Param)(s t:Int):List fG:=p.Parts.map (wO p s t)
def aQ (p:Param)(a s:Int)(base n:Nat):List Cell:=(List.range n).map λ(t:Nat)=>Cell.mk a ((base+t:Nat):Int) s (bI p s t)
def cellsS (p:Param)(a:Int)(l:List Int):List Cell:=l.foldl (λcs s=>cs++aQ p a s cs.length p.Times.toNat) []
def gU (p:Param)(a:Int):List Cell:=cellsS p a (bU p)
theorem stL_len (p:Param):(stL p).length=(16/p.Every).toNat:=by unfold stL;rw [List.length_map,List.length_range]
theorem aVd {p:Param}{i:Nat}{s:Int}(h:(stL p)[i]? =some s):s=p.First+i*p.Every:=by
 unfold stL at h;rw [List.getElem?_map]at h
 cases hr:(List.range (16/p.Every).toNat)[i]? with
 |none=>rw [hr]at h;cases h
 |some _=>
  rw [hr]at h;have:=(gS.1 hr).2;rw [List.getElem_range]at this;subst this;simpa using h.symm
theorem aAa {p:Param} (a:bY p):(stL p).length<=16/\(∀i<(stL p).length,p.First+(i:Int)*p.Every<16)/\ ¬(p.First+((stL p).length:Int)*p.Every<16):=by
 rw [stL_len];have c:=a.f0;have b:=a.f1;rcases a.ev with e|e|e|e|e<;>rw [e]at b⊢
 ·refine⟨by decide,λi hi=>?_,?_⟩
  ·have:i<16:=hi;omega
  ·show¬(p.First+((16:Nat):Int)*1<16);omega
 ·refine⟨by decide,λi hi=>?_,?_⟩
  ·have:i<8:=hi;omega
  ·show¬(p.First+((8:Nat):Int)*2<16);omega
 ·refine⟨by decide,λi hi=>?_,?_⟩
  ·have:i<4:=hi;omega
  ·show¬(p.First+((4:Nat):Int)*4<16);omega
 ·refine⟨by decide,λi hi=>?_,?_⟩
  ·have:i<2:=hi;omega
  ·show¬(p.First+((2:Nat):Int)*8<16);omega
 ·refine⟨by decide,λi hi=>?_,?_⟩
  ·have:i<1:=hi;omega
  ·show¬(p.First+((1:Nat):Int)*16<16);omega
theorem aOv {p:Param}(a:bY p):1<=p.Every/\p.Every<=16:=by have:=a.ev;omega
theorem next_w {p:Param}(a:bY p){i:Nat}(hi:i<(stL p).length):IntKind.i64.wrap (p.First+(i:Int)*p.Every+p.Every)=p.First+((i+1:Nat):Int)*p.Every:=by
 have b:=(aAa a).2.1 i hi;have c:=aOv a;have:(0:Int)<=(i:Int)*p.Every:=Int.mul_nonneg (by omega) (by omega);have d:=a.f0;rw [Go.OB.wrap_i64 (by omega) (by omega)];have e:((i+1:Nat):Int)*p.Every=(i:Int)*p.Every+p.Every:=by rw [Int.natCast_add,Int.add_mul,Int.natCast_one,Int.one_mul]
 omega
theorem aSq {p:Param} (a:bY p) (e:p.Parts.length<=9223372036854775807):Fb1 p=some (bU p):=by
 obtain⟨f1,f2,f3⟩:=aAa a;unfold Fb1 Fkc;rw [xO (r:=some (bU p)) (λi=>(((stL p).take i).filter (aDb p),p.First+(i:Int)*p.Every)) (stL p).length (by omega)]
 ·rfl
 ·show([],p.First)=([],p.First+((0:Nat):Int)*p.Every);rw [Int.natCast_zero,Int.zero_mul,Int.add_zero]
 ·intro k i hi;have b:(stL p)[i]? =some (stL p)[i]:=gE hi;have c:=aVd b;simp only [zK];rw [dT (f2 i hi),zU,contP_eq _ _ e,zC,next_w a hi,bF b,List.filter_append];have f:aDb p (stL p)[i]= !(p.Parts.any λy=>decide (16<=IntKind.i64.wrap (p.First+(i:Int)*p.Every+y.Frame))):=by rw [c];rfl
  rw [<-f]
  cases h:aDb p (stL p)[i]with
  |false=>
   rw [zQ,zC,List.filter_cons_of_neg (by rw [h];decide),List.filter_nil,List.append_nil]
  |true=>
   have d:(((stL p).take i).filter (aDb p)).length<=16:=Nat.le_trans (List.length_filter_le _ _) (by rw [List.length_take];omega);rw [zU,jH (by rw [List.length_singleton];omega) (by decide),zC,zC,List.filter_cons_of_pos h,List.filter_nil,<-c]
 ·intro k;simp only [zK];rw [qD f3,zQ,List.take_length];rfl
theorem aSe (p:Param)(s t:Int){i:Nat}{y:Part}(h:p.Parts[i]? =some y):(p.Parts.take (i+1)).map (wO p s t)=(p.Parts.take i).map (wO p s t)++[wO p s t y]:=by
 rw [bF h,List.map_append,List.map_singleton]
theorem aQk (p:Param)(a s:Int)(b n:Nat):aQ p a s b (n+1)=aQ p a s b n++[Cell.mk a ((b+n:Nat):Int) s (bI p s n)]:=by
 unfold aQ;rw [List.range_succ,List.map_append,List.map_singleton]
theorem jX (p:Param)(a s:Int)(b n:Nat):(aQ p a s b n).length=n:=by unfold aQ;rw [List.length_map,List.length_range]
theorem aGu (p:Param)(a:Int)(l:List Int)(s:Int):cellsS p a (l++[s])=cellsS p a l++aQ p a s (cellsS p a l).length p.Times.toNat:=by
 unfold cellsS;rw [List.foldl_append,List.foldl_cons,List.foldl_nil]
theorem aBa (p:Param)(a:Int)(l:List Int):(cellsS p a l).length=l.length*p.Times.toNat:=by
 have: ∀(l:List Int) (cs:List Cell),(l.foldl (λcs s=>cs++aQ p a s cs.length p.Times.toNat) cs).length=cs.length+l.length*p.Times.toNat:=by
  intro l
  induction l with
  |nil=>intro cs;simp
  |cons s l b=>
   intro cs;rw [List.foldl_cons,b,List.length_append,jX,List.length_cons,Nat.add_mul,Nat.one_mul];omega
 have:=this l [];simpa [cellsS]using this
theorem aGe {p:Param}(a:bY p)(b:Int)(l:List Int)(h:l.length<=16):(cellsS p b l).length<=912:=by
 rw [aBa];have:=a.t2;have:=Nat.mul_le_mul h (by omega:p.Times.toNat<=57);omega
theorem aNs {p:Param}(a:bY p):(bU p).length<=16:=by
 unfold bU;exact Nat.le_trans (List.length_filter_le _ _) (aAa a).1
theorem times_st {p:Param} (f:pO p) (d:bY p) (a s:Int) (cs:List Cell) (g:cs.length<=912):Fgx a p s (cs,0)=some (cs++aQ p a s cs.length p.Times.toNat):=by
 have t1:=d.t1;have t2:=d.t2;have h:=f.n8;unfold Fgx;rw [xO (r:=some (cs++aQ p a s cs.length p.Times.toNat)) (λi=>(cs++aQ p a s cs.length i,(i:Int))) p.Times.toNat (by omega)]
 ·show(cs,(0:Int))=(cs++[],((0:Nat):Int));rw [List.append_nil];rfl
 ·intro k i _;simp only [zK];rw [dT (by omega:(i:Int)<p.Times),zU];have b:Ffr p s (i:Int) (p.Parts.length:Int) (0,[])=some (bI p s i):=by
   unfold Ffr;rw [xO (r:=some (bI p s i)) (λj=>((j:Int),(p.Parts.take j).map (wO p s i))) p.Parts.length (by omega)]
   ·rfl
   ·intro k j c;have e:p.Parts[j]? =some p.Parts[j]:=gE c;simp only [zK,yK c,zU,yY e,zC,Fev];rw [jH (by rw [List.length_map,List.length_take,List.length_singleton];omega) (by decide),zC,fQ c (by omega),aSe p s i e];rfl
   ·intro k;simp only [zK,yN,zQ,List.take_length];rfl
  rw [b,zC,jH (by rw [List.length_append,jX,List.length_singleton];omega) (by decide),zC,zC,Go.OB.wrap_i64 (by omega) (by omega),aQk,List.length_append,jX,List.append_assoc];rfl
 ·intro k;simp only [zK];rw [qD (by omega),zQ]
theorem aPh {p:Param} (c:pO p) (b:bY p) (a:Int):Fbb a p=some (gU p a):=by
 have e:=aNs b;unfold Fbb Fkl;rw [aSq b (by have:=c.n8;omega),zC,zK];rw [xO (r:=some (gU p a)) (λi=>(cellsS p a ((bU p).take i),(i:Int))) (bU p).length (by omega)];rfl;rfl;intro k i hi;have d:(bU p)[i]? =some (bU p)[i]:=gE hi;simp only [zK,yK hi,zU,yY d,zC];rw [times_st c b a _ _ (aGe b a _ (by rw [List.length_take];omega)),zC,fQ hi (by omega),bF d,aGu];intro k;simp only [zK,yN,zQ,List.take_length];rfl
theorem good_2 (p:Param)(a:p.Parts.length<=9223372036854775807)(s:Int):Fg6 p s (p.Parts.length:Int) (true,0)=some (aDb p s):=by
 unfold Fg6;rw [aMl p.Parts (λb (y:Part)=>b&&decide (IntKind.i64.wrap (s+y.Frame)<16)) (λb=>some b) true a (λk _ b y e d=>by simp only [zK,yK d,zU,yY e,zC,fQ d a,dW]) (λk b=>by simp only [zK,yN,zQ])]
 congr 1
 have: ∀(l:List Part) (b:Bool),l.foldl (λb (y:Part)=>b&&decide (IntKind.i64.wrap (s+y.Frame)<16)) b=(b&& !(l.any λy=>decide (16<=IntKind.i64.wrap (s+y.Frame)))):=by
  intro l
  induction l with
  |nil=>intro b;simp
  |cons y l f=>
   intro b;rw [List.foldl_cons,f,List.any_cons];have:decide (IntKind.i64.wrap (s+y.Frame)<16)= !decide (16<=IntKind.i64.wrap (s+y.Frame)):=by
    by_cases c:16<=IntKind.i64.wrap (s+y.Frame)
    ·rw [dT c];exact qD (by omega)
    ·rw [qD c];exact dT (by omega)
   rw [this,Bool.not_or,Bool.and_assoc]
 rw [this];rfl
theorem times_2 {p:Param} (f:pO p) (d:bY p) (a s:Int) (cs:List Cell) (g:cs.length<=912):Fbe p a s true (cs,0)=some (cs++aQ p a s cs.length p.Times.toNat):=by
 have t1:=d.t1;have t2:=d.t2;have h:=f.n8;unfold Fbe;rw [xO (r:=some (cs++aQ p a s cs.length p.Times.toNat)) (λi=>(cs++aQ p a s cs.length i,(i:Int))) p.Times.toNat (by omega)]
 ·show(cs,(0:Int))=(cs++[],((0:Nat):Int));rw [List.append_nil];rfl
 ·intro k i _;simp only [zK];rw [dT (by omega:(i:Int)<p.Times),zU,zC,zU];have b:Fgb p s (i:Int) (p.Parts.length:Int) (0,[])=some (bI p s i):=by
   unfold Fgb;rw [xO (r:=some (bI p s i)) (λj=>((j:Int),(p.Parts.take j).map (wO p s i))) p.Parts.length (by omega)]
   ·rfl
   ·intro k j c;have e:p.Parts[j]? =some p.Parts[j]:=gE c;simp only [zK,yK c,zU,yY e,zC];rw [jH (by rw [List.length_map,List.length_take,List.length_singleton];omega) (by decide),zC,fQ c (by omega),aSe p s i e];rfl
   ·intro k;simp only [zK,yN,zQ,List.take_length];rfl
  rw [b,zC,jH (by rw [List.length_append,jX,List.length_singleton];omega) (by decide),zC,zC,Go.OB.wrap_i64 (by omega) (by omega),aQk,List.length_append,jX,List.append_assoc];rfl
 ·intro k;simp only [zK];rw [qD (by omega),zQ,zC,zQ]
theorem none_2 {p:Param}(a:bY p)(b s:Int)(cs:List Cell):Fbe p b s false (cs,0)=some cs:=by
 unfold Fbe;rw [xO (r:=some cs) (λ_=>(cs,(0:Int))) 0 (by omega) rfl (λk _ _=>by omega)];intro k;simp only [zK];rw [dT (by have:=a.t1;omega:(0:Int)<p.Times),zU,zC,zQ]
theorem aIi {p:Param} (d:pO p) (b:bY p) (a:Int):Fa0 p a=some (gU p a):=by
 obtain⟨f1,f2,f3⟩:=aAa b;have g:=d.n8;unfold Fa0 Fhq;rw [xO (r:=some (gU p a)) (λi=>(cellsS p a (((stL p).take i).filter (aDb p)),p.First+(i:Int)*p.Every)) (stL p).length (by omega)]
 ·rfl
 ·show([],p.First)=([],p.First+((0:Nat):Int)*p.Every);rw [Int.natCast_zero,Int.zero_mul,Int.add_zero]
 ·intro k i hi;have e:(stL p)[i]? =some (stL p)[i]:=gE hi;have f:=aVd e;simp only [zK];rw [dT (f2 i hi),zU,good_2 p (by omega),zC,next_w b hi,bF e,List.filter_append];rw [<-f]
  cases h:aDb p (stL p)[i]with
  |false=>
   rw [none_2 b,zC,List.filter_cons_of_neg (by rw [h];decide),List.filter_nil,List.append_nil]
  |true=>
   have c:(((stL p).take i).filter (aDb p)).length<=16:=Nat.le_trans (List.length_filter_le _ _) (by rw [List.length_take];omega);rw [times_2 d b a _ _ (aGe b a _ c),zC,List.filter_cons_of_pos h,List.filter_nil,aGu]
 ·intro k;simp only [zK];rw [qD f3,zQ,List.take_length];rfl
theorem aRh {b c:Type} [DecidableEq b] (k a:b) (v:c): ∀l:List (b×c),aCw (pM l k v) a=(decide (k=a)||aCw l a)
 | []=>by rw [pM];unfold aCw;rw [List.any_cons,List.any_nil]
 |p::l=>by
  have d:=aRh k a v l;rw [pM];unfold aCw at d⊢
  by_cases h:p.1=k
  ·rw [if_pos h,List.any_cons,List.any_cons,h]
   cases decide (k=a)<;>simp
  ·rw [if_neg h,List.any_cons,List.any_cons,d]
   cases decide (p.1=a)<;>cases decide (k=a)<;>rfl
theorem aLm {c d:Type} [DecidableEq c] (k b:c) (v z:d): ∀l:List (c×d),jB (pM l k v) b z=if k=b then v else jB l b z
 | []=>by
  rw [pM];unfold jB
  by_cases h:k=b
  ·rw [List.find?_cons_of_pos (by simpa using h),if_pos h]
  ·rw [List.find?_cons_of_neg (by simpa using h),if_neg h]
 |p::l=>by
  have f:=aLm k b v z l;rw [pM];unfold jB at f⊢
  by_cases h:p.1=k
  ·rw [if_pos h]
   by_cases a:k=b
   ·rw [List.find?_cons_of_pos (by simpa using a),if_pos a]
   ·rw [List.find?_cons_of_neg (by simpa using a),if_neg a,List.find?_cons_of_neg (by rw [h];simpa using a)]
  ·rw [if_neg h]
   by_cases a:p.1=b
   ·rw [List.find?_cons_of_pos (by simpa using a),List.find?_cons_of_pos (by simpa using a),if_neg (by rw [<-a];exact λe=>h e.symm)]
   ·rw [List.find?_cons_of_neg (by simpa using a),List.find?_cons_of_neg (by simpa using a)];exact f
theorem aAm {a β σ:Type}{body:(Int×σ->Option β)->Int×σ->Option β}(l:List a)(f:Nat->a->σ->σ ⊕ Option β)(fin:σ->Option β)(s:σ)(c:l.length<=9223372036854775807)
  (h: ∀k (i:Nat) s x,l[i]? =some x->i<l.length->body k ((i:Int),s)=match f i x s with | .inl s'=>k (((i+1:Nat):Int),s')| .inr r=>r)(d: ∀k s,body k ((l.length:Int),s)=fin s):gY body (0,s)=aP f fin l 0 s:=
 jZ (λ(i:Nat) (s:σ)=>((i:Int),s)) l f fin c (λk i s x b=>h k i s x b (gS.1 b).1) d s
theorem aNu {a β σ:Type}{body:(σ×Int->Option β)->σ×Int->Option β}(l:List a)(f:Nat->a->σ->σ ⊕ Option β)(fin:σ->Option β)(s:σ)(c:l.length<=9223372036854775807)
  (h: ∀k (i:Nat) s x,l[i]? =some x->i<l.length->body k (s,(i:Int))=match f i x s with | .inl s'=>k (s',((i+1:Nat):Int))| .inr r=>r)(d: ∀k s,body k (s,(l.length:Int))=fin s):gY body (s,0)=aP f fin l 0 s:=
 jZ (λ(i:Nat) (s:σ)=>(s,(i:Int))) l f fin c (λk i s x b=>h k i s x b (gS.1 b).1) d s
def aH (x:fG):List fA:=(List.range x.Bits.toNat).map λ(i:Nat)=>fA.mk x.Frame x.Word (x.Low+(i:Int))
def OkP (x:fG):Prop:=0<=x.Low/\x.Low<=10/\1<=x.Bits/\x.Bits<=11
theorem bitsAt_l {x:fG} (h:OkP x):Fc1 x=some (aH x):=by
 obtain⟨_,_,_,_⟩:=h;unfold Fc1 Fj9;rw [xO (r:=some (aH x)) (λi=>((List.range i).map λ(i:Nat)=>fA.mk x.Frame x.Word (x.Low+(i:Int)),(i:Int))) x.Bits.toNat (by omega)];rfl;rfl;intro k i _;simp only [zK];rw [dT (by omega:(i:Int)<x.Bits),zU,Go.OB.wrap_i64 (by omega) (by omega),jH (by rw [List.length_map,List.length_range,List.length_singleton];omega) (by decide),zC,Go.OB.wrap_i64 (by omega) (by omega),List.range_succ,List.map_append,List.map_singleton];rfl;intro k;simp only [zK];rw [qD (by omega),zQ];rfl
def tkP (o:Int):List fA->List (fA×Int)->Bool×List (fA×Int)
 | [],m=>(true,m)
 |b::l,m=>if aCw m b=true then(false,m)else tkP o l (pM m b o)
theorem aOq (o:Int): ∀(l l':List fA) (m:List (fA×Int)),tkP o (l++l') m=if (tkP o l m).1=true then tkP o l' (tkP o l m).2 else tkP o l m
 | [],l',m=>rfl
 |b::l,l',m=>by
  rw [List.cons_append,tkP,tkP]
  by_cases h:aCw m b=true
  ·rw [if_pos h,if_pos h];rfl
  ·rw [if_neg h,if_neg h];exact aOq o l l' _
theorem take_runP (o:Int)(l:List fA)(k:List (fA×Int)->Option (Bool×List (fA×Int)))(m:List (fA×Int))(a:l.length<=9223372036854775807):
  Fg2 o k l (l.length:Int) (0,m)=if (tkP o l m).1=true then k (tkP o l m).2 else some (tkP o l m):=by
 unfold Fg2;rw [aAm l (λ_ b m=>if aCw m b=true then .inr (some (false,m))else .inl (pM m b o)) (λm=>k m) m a
  (λk i m b d c=>by
   simp only [zK,yK c,zU,yY d,zC,fQ c a]
   cases aCw m b<;>rfl)
  (λk m=>by simp only [zK,yN,zQ])]
 have: ∀(l:List fA) (i:Nat) (m:List (fA×Int)),aP (λ_ b m=>if aCw m b=true then .inr (some (false,m))else .inl (pM m b o)) (λm=>k m) l i m=if (tkP o l m).1=true then k (tkP o l m).2 else some (tkP o l m):=by
  intro l
  induction l with
  |nil=>intro i m;rfl
  |cons b l e=>
   intro i m;rw [aP,tkP]
   cases h:aCw m b with
   |true=>rfl
   |false=>exact e (i+1) _
 exact this l 0 m
theorem take_l (o:Int)(l:List fG)(m:List (fA×Int))(a:l.length<=9223372036854775807)(e: ∀x∈l,OkP x):Fbm m o l=some (tkP o (l.flatMap aH) m):=by
 unfold Fbm Fkq;rw [yO,zK];rw [aAm l (λ_ x m=>if (tkP o (aH x) m).1=true then .inl (tkP o (aH x) m).2 else .inr (some (tkP o (aH x) m))) (λm=>some (true,m)) m a
  (λk i m x b c=>by
   have d:=e x (qS b);simp only [zK,yO,yK c,zU,yY b,zC,fQ c a,bitsAt_l d];rw [take_runP o _ _ _ (by unfold aH;rw [List.length_map,List.length_range];have:=d.2.2.2;omega)]
   cases(tkP o (aH x) m).1<;>rfl)
  (λk m=>by simp only [zK,yN,zQ])]
 have: ∀(l:List fG) (i:Nat) (m:List (fA×Int)),aP (λ_ x m=>if (tkP o (aH x) m).1=true then .inl (tkP o (aH x) m).2 else .inr (some (tkP o (aH x) m))) (λm=>some (true,m)) l i m=some (tkP o (l.flatMap aH) m):=by
  intro l
  induction l with
  |nil=>intro i m;rfl
  |cons x l f=>
   intro i m;rw [aP,List.flatMap_cons,aOq]
   by_cases h:(tkP o (aH x) m).1=true
   ·rw [if_pos h,if_pos h];exact f (i+1) _
   ·rw [if_neg h,if_neg h]
 exact this l 0 m
def aLr (b:fA):Arr 3 Int:=⟨[b.frame,b.word,b.bit],rfl⟩
def tkR:List fA->Bool×List (Arr 3 Int×Bool)->Bool×List (Arr 3 Int×Bool)
 | [],s=>s
 |b::l,s=>tkR l (s.1&& !jB s.2 (aLr b) false,pM s.2 (aLr b) true)
theorem aIc: ∀(l l':List fA) (s:Bool×List (Arr 3 Int×Bool)),tkR (l++l') s=tkR l' (tkR l s)
 | [],_,_=>rfl
 |b::l,l',s=>by rw [List.cons_append,tkR,tkR];exact aIc l l' _
theorem aIm: ∀(l:List fA) (b:Bool) (m:List (Arr 3 Int×Bool)),(tkR l (b,m)).1=(b&&(tkR l (true,m)).1)/\(tkR l (b,m)).2=(tkR l (true,m)).2
 | [],b,m=>by simp [tkR]
 |x::l,b,m=>by
  rw [tkR,tkR];have a:=aIm l (b&& !jB m (aLr x) false) (pM m (aLr x) true);have c:=aIm l (true&& !jB m (aLr x) false) (pM m (aLr x) true);refine⟨?_,a.2.trans c.2.symm⟩;rw [a.1,c.1,Bool.true_and,Bool.and_assoc]
theorem take_2a {x:fG} (a:OkP x) (b:Bool) (m:List (Arr 3 Int×Bool)):Fgr x (b,x.Low,m)=some (tkR (aH x) (b,m)):=by
 obtain⟨_,_,_,_⟩:=a;unfold Fgr;have e:aH x=(List.range x.Bits.toNat).map λ(i:Nat)=>fA.mk x.Frame x.Word (x.Low+(i:Int)):=rfl;rw [xO (r:=some (tkR (aH x) (b,m))) (λi=>((tkR ((List.range i).map λ(i:Nat)=>fA.mk x.Frame x.Word (x.Low+(i:Int))) (b,m)).1,x.Low+(i:Int),(tkR ((List.range i).map λ(i:Nat)=>fA.mk x.Frame x.Word (x.Low+(i:Int))) (b,m)).2)) x.Bits.toNat (by omega)];show(b,x.Low,m)=(b,x.Low+((0:Nat):Int),m);rw [Int.natCast_zero,Int.add_zero];intro k i _;simp only [zK];rw [Go.OB.wrap_i64 (by omega: -9223372036854775808<=x.Low+x.Bits) (by omega),dT (by omega:x.Low+(i:Int)<x.Low+x.Bits),zU,dW,zC,Go.OB.wrap_i64 (by omega) (by omega),List.range_succ,List.map_append,List.map_singleton,aIc];have:x.Low+(i:Int)+1=x.Low+((i+1:Nat):Int):=by omega
 rw [this];rfl;intro k;simp only [zK];rw [Go.OB.wrap_i64 (by omega: -9223372036854775808<=x.Low+x.Bits) (by omega),qD (by omega: ¬x.Low+(x.Bits.toNat:Int)<x.Low+x.Bits),zQ];rfl
theorem take_2 (l:List fG) (m:List (Arr 3 Int×Bool)) (a:l.length<=9223372036854775807) (c: ∀x∈l,OkP x):Fdo m l=some (tkR (l.flatMap aH) (true,m)):=by
 unfold Fdo Fi4;rw [zK];rw [xO (r:=some (tkR (l.flatMap aH) (true,m))) (λi=>((tkR ((l.take i).flatMap aH) (true,m)).1,(i:Int),(tkR ((l.take i).flatMap aH) (true,m)).2)) l.length a];rfl;rfl;intro k i hi;have b:l[i]? =some l[i]:=gE hi;simp only [zK,yK hi,zU,yY b,zC];rw [take_2a (c _ (List.getElem_mem hi)),zC,fQ hi a,bF b,List.flatMap_append,List.flatMap_singleton,aIc];intro k;simp only [zK,yN,zQ,List.take_length]
theorem aNo (l:List Cell) (m:List (Arr 3 Int×Bool)) (a:l.length<=9223372036854775807) (e: ∀c∈l,c.Places.length<=9223372036854775807/\ ∀x∈c.Places,OkP x):Fbs m l=some (tkR (l.flatMap λc=>c.Places.flatMap aH) (true,m)):=by
 unfold Fbs Fkj;rw [zK];rw [xO (r:=some (tkR (l.flatMap λc=>c.Places.flatMap aH) (true,m))) (λi=>((tkR ((l.take i).flatMap λc=>c.Places.flatMap aH) (true,m)).1,(i:Int),(tkR ((l.take i).flatMap λc=>c.Places.flatMap aH) (true,m)).2)) l.length a];rfl;rfl;intro k i hi;have b:l[i]? =some l[i]:=gE hi;have d:=e _ (List.getElem_mem hi);simp only [zK,yK hi,zU,yY b,zC];rw [take_2 _ _ d.1 d.2,zC,fQ hi a,bF b,List.flatMap_append,List.flatMap_singleton,aIc];generalize tkR ((l.take i).flatMap λc=>c.Places.flatMap aH) (true,m)=s;have:=aIm (l[i].Places.flatMap aH) s.1 s.2;have f:tkR (l[i].Places.flatMap aH) s=((s.1&&(tkR (l[i].Places.flatMap aH) (true,s.2)).1),(tkR (l[i].Places.flatMap aH) (true,s.2)).2):=Prod.ext this.1 this.2;rw [f];generalize tkR (l[i].Places.flatMap aH) (true,s.2)=q;obtain⟨g,_⟩:=q;obtain⟨s1,_⟩:=s;cases g<;>cases s1<;>rfl;intro k;simp only [zK,yN,zQ,List.take_length]
def relB (m:List (fA×Int))(m':List (Arr 3 Int×Bool)):Prop:= ∀b,aCw m b=jB m' (aLr b) false
theorem aQo {a b:fA}:aLr a=aLr b↔a=b:=by
 constructor
 ·intro h;have:=congrArg Arr.l h;simp only [aLr,List.cons.injEq,and_true]at this
  cases a;cases b
  simp_all
 ·intro h;rw [h]
theorem aTw (o:Int): ∀(l:List fA) (m:List (fA×Int)) (m':List (Arr 3 Int×Bool)),relB m m'->(tkP o l m).1=(tkR l (true,m')).1/\((tkP o l m).1=true->relB (tkP o l m).2 (tkR l (true,m')).2)
 | [],m,m',h=>⟨rfl,λ_=>h⟩
 |b::l,m,m',h=>by
  rw [tkP,tkR,<-h b]
  cases hb:aCw m b with
  |true=>
   rw [if_pos rfl];refine⟨?_,λc=>by cases c⟩;rw [(aIm l _ _).1];rfl
  |false=>
   rw [if_neg (by decide)];refine aTw o l _ _ λc=>?_
   rw [aRh,aLm,h c]
   by_cases e:b=c
   ·rw [if_pos (aQo.2 e),dT e,Bool.true_or]
   ·rw [if_neg (λq=>e (aQo.1 q)),qD e,Bool.false_or]
structure SzP (p:Param):Prop where
 nm:p.Name.length<=9223372036854775807
 pl:p.Parts.length<=9223372036854775807
 nl:p.Names.length<=9223372036854775807
 ns: ∀s∈p.Names,s.length<=9223372036854775807
def bM (c:Cell):List fA:=c.Places.flatMap aH
def sH (p:Param):Int:=if vN p.Name=false then 8 else if cO p.Kind 1 6=true then 7 else if pfM p≠0 then pfM p else if tfM p≠0 then tfM p else if kfM p≠0 then kfM p else if (tkP 0 ((gU p 0).flatMap bM) []).1=false then 5 else if (gU p 0).length=0 then 13 else 0
structure sV (p:Param):Prop where
 nm:vN p.Name=true
 kd:cO p.Kind 1 6=false
 pt:pO p
 tm:bY p
 pf:pfM p=0
 tf:tfM p=0
 kf:kfM p=0
 cl:(gU p 0).length≠0
 ck:sH p=0
theorem tf_ok {p:Param} (h:tfM p=0):bY p:=by
 unfold tfM at h;split at h;cases h;rename_i a;exact aOz (by simpa using a)
theorem wK {p:Param}(h:sH p=0):sV p:=by
 have a:=h;unfold sH at h;split at h;cases h;rename_i f;split at h;cases h;rename_i g;split at h;rename_i c;exact absurd h c;rename_i b;split at h;rename_i c;exact absurd h c;rename_i d;split at h;rename_i c;exact absurd h c;rename_i e;split at h;cases h;split at h;cases h;rename_i i;have b:pfM p=0:=by omega
 have d:tfM p=0:=by omega
 have e:kfM p=0:=by omega
 exact⟨by simpa using f,by simpa using g,aNi b,tf_ok d,b,d,e,i,a⟩
theorem aUm {p:Param}{a s:Int}{b n:Nat}{c:Cell}(h:c∈aQ p a s b n): ∃t,t<n/\c=Cell.mk a ((b+t:Nat):Int) s (bI p s t):=by
 unfold aQ at h;obtain⟨t,d,rfl⟩:=List.mem_map.1 h;exact⟨t,List.mem_range.1 d,rfl⟩
theorem aDx {p:Param}{a:Int}{l:List Int}{c:Cell} (h:c∈cellsS p a l): ∃s t i,s∈l/\t<p.Times.toNat/\c=Cell.mk a i s (bI p s (t:Nat)):=by
 have: ∀(l:List Int) (cs:List Cell),c∈l.foldl (λcs s=>cs++aQ p a s cs.length p.Times.toNat) cs->c∈cs\/ ∃s t i,s∈l/\t<p.Times.toNat/\c=Cell.mk a i s (bI p s (t:Nat)):=by
  intro l
  induction l with
  |nil=>intro cs h;exact .inl h
  |cons s l b=>
   intro cs h;rw [List.foldl_cons]at h;rcases b _ h with h|⟨d,t,i,f,g,j⟩
   ·rcases mA.1 h with h|h
    ·exact .inl h
    ·obtain⟨t,k,e⟩:=aUm h;exact .inr ⟨s,t,_,List.mem_cons_self ..,k,e⟩
   ·exact .inr ⟨d,t,i,List.mem_cons_of_mem _ f,g,j⟩
 rcases this l [] h with h|h
 ·cases h
 ·exact h
theorem places_ok {p:Param}(a:pO p){s t:Int}{x:fG}(h:x∈bI p s t):OkP x:=by
 unfold bI at h;obtain⟨y,b,rfl⟩:=List.mem_map.1 h;have:=aKa (a.all y b);unfold OkP wO;simp only;omega
theorem aIg {p:Param}(a:pO p){b:Int}{c:Cell}(h:c∈gU p b):c.Places.length<=9223372036854775807/\ ∀x∈c.Places,OkP x:=by
 obtain⟨s,t,_,_,_,rfl⟩:=aDx h;refine⟨?_,λx d=>places_ok a d⟩;show(bI p s t).length<=_;unfold bI;rw [List.length_map];have:=a.n8;omega
theorem aG {p:Param}(a:bY p)(b:Int):(gU p b).length<=912:=aGe a b _ (aNs a)
theorem aAq (p:Param)(a:Int):(gU p a).flatMap bM=(gU p 0).flatMap bM/\(gU p a).length=(gU p 0).length:=by
 refine⟨?_,by unfold gU;rw [aBa,aBa]⟩;have: ∀(l:List Int) (cs cs':List Cell),cs.flatMap bM=cs'.flatMap bM->(l.foldl (λcs s=>cs++aQ p a s cs.length p.Times.toNat) cs).flatMap bM=(l.foldl (λcs s=>cs++aQ p 0 s cs.length p.Times.toNat) cs').flatMap bM:=by
  intro l
  induction l with
  |nil=>intro cs cs' h;exact h
  |cons s l b=>
   intro cs cs' h;rw [List.foldl_cons,List.foldl_cons];refine b _ _ ?_;rw [List.flatMap_append,List.flatMap_append,h]
   congr 1
   unfold aQ;rw [List.flatMap_map,List.flatMap_map];rfl
 exact this (bU p) [] [] rfl
theorem aNz {β:Type}(o:Int)(r:Option β)(fin:List (fA×Int)->Option β): ∀(l:List Cell) (i:Nat) (m:List (fA×Int)),aP (λ_ c m=>if (tkP o (bM c) m).1=true then .inl (tkP o (bM c) m).2 else .inr r) fin l i m=if (tkP o (l.flatMap bM) m).1=true then fin (tkP o (l.flatMap bM) m).2 else r
 | [],i,m=>rfl
 |c::l,i,m=>by
  rw [aP,List.flatMap_cons,aOq]
  by_cases h:(tkP o (bM c) m).1=true
  ·rw [if_pos h,if_pos h];exact aNz o r fin l (i+1) _
  ·rw [if_neg h,if_neg h,if_neg h]
theorem par_l {p:Param} (e:SzP p):Fda p=some (sH p):=by
 unfold Fda sH;simp only [aSv,lwi,zC,zK,yO,nwi,pf_l p e.pl]
 cases vN p.Name with
 |false=>rfl
 |true=>
  simp only [Bool.not_true,zQ,Bool.true_eq_false,if_false];show gJ (cO p.Kind 1 6) _ _=_
  cases cO p.Kind 1 6 with
  |true=>rfl
  |false=>
   simp only [zQ,Bool.false_eq_true,if_false,yX]
   by_cases d:pfM p=0
   ·simp only [d,if_true,ne_eq,not_true,if_false]
    by_cases f:tfM p=0
    ·simp only [f,not_true,if_false];rw [kf_l p e.pl e.nl (aNi d),zC]
     by_cases g:kfM p=0
     ·simp only [g,not_true,if_false];have h:=aNi d;have j:=tf_ok f;have a:(gU p 0).length<=9223372036854775807:=Nat.le_trans (aG j 0) (by decide);rw [aPh h j,zC];unfold Fi9;rw [aAm (gU p 0) (λ_ c m=>if (tkP 0 (bM c) m).1=true then .inl (tkP 0 (bM c) m).2 else .inr (some 5)) (λ_=>if ((gU p 0).length:Int)=0 then some 13 else some 0) [] a
       (λk _ m c n o=>by
        have q:=aIg h (qS n);simp only [zK,yK o,zU,yY n,zC,fQ o a,take_l 0 c.Places m q.1 q.2];show gJ (!(tkP 0 (bM c) m).1) _ (k (_,(tkP 0 (bM c) m).2))=_;rcases tkP 0 (bM c) m with ⟨b,_⟩
        cases b<;>rfl)
       (λk m=>by simp only [zK,yN,zQ]),aNz]
      cases(tkP 0 ((gU p 0).flatMap bM) []).1 with
      |false=>rfl
      |true=>
       simp only [if_true,Bool.true_eq_false,if_false]
       by_cases c:(gU p 0).length=0
       ·rw [if_pos c,if_pos (by omega)]
       ·rw [if_neg c,if_neg (by omega)]
     ·simp only [g,not_false_eq_true,if_true]
    ·simp only [f,not_false_eq_true,if_true]
   ·simp only [d,if_false,ne_eq,not_false_eq_true,if_true]
theorem par_2 {p:Param} (a:SzP p):Fbw p=some (sH p):=by
 unfold Fbw sH;simp only [aSm p.Name a.nm,out2,zC,zK,pf_2 p a.pl]
 cases vN p.Name with
 |false=>rfl
 |true=>
  simp only [Bool.not_true,zQ,Bool.true_eq_false,if_false];show gJ (cO p.Kind 1 6) _ _=_
  cases cO p.Kind 1 6 with
  |true=>rfl
  |false=>
   simp only [zQ,Bool.false_eq_true,if_false,yX]
   by_cases d:pfM p=0
   ·simp only [d,ne_eq,not_true,if_false];rw [tf_2 p a.pl (aNi d).all,zC]
    by_cases f:tfM p=0
    ·simp only [f,not_true,if_false];rw [kf_2 p a.pl a.nl a.ns (aNi d),zC]
     by_cases h:kfM p=0
     ·simp only [h,not_true,if_false];have i:=aNi d;have j:=tf_ok f;have g:(gU p 0).length<=9223372036854775807:=Nat.le_trans (aG j 0) (by decide);rw [aIi i j,zC,aNo _ _ g (λc k=>aIg i k),zC];have m:=aTw 0 ((gU p 0).flatMap bM) [] [] (λ_=>rfl);have e:(tkR ((gU p 0).flatMap λc=>c.Places.flatMap aH) (true,[])).1=(tkP 0 ((gU p 0).flatMap bM) []).1:=m.1.symm;simp only [e]
      cases(tkP 0 ((gU p 0).flatMap bM) []).1 with
      |false=>rfl
      |true=>
       simp only [Bool.not_true,zQ,Bool.true_eq_false,if_false]
       by_cases c:(gU p 0).length=0
       ·rw [if_pos c,if_pos (by omega)]
       ·rw [if_neg c,if_neg (by omega)]
     ·simp only [h,not_false_eq_true,if_true]
    ·simp only [f,not_false_eq_true,if_true]
   ·simp only [d,ne_eq,not_false_eq_true,if_true]
structure SzM (m:Map):Prop where
 pl:m.Params.length<=9223372036854775807
 ps: ∀p∈m.Params,SzP p
theorem jV {c β:Type} (q:Nat->c->Option (Option β)): ∀(l:List c) (i:Nat),
  (∃j x v,l[j]? =some x/\q (i+j) x=some v/\ ∀fin,cZ q fin l i=v)\/((∀j x,l[j]? =some x->q (i+j) x=none)/\ ∀fin,cZ q fin l i=fin)
 | [],i=> .inr ⟨λj x h=>by simp at h,λ_=>rfl⟩
 |x::l,i=>by
  cases h:q i x with
  |some v=>exact .inl ⟨0,x,v,rfl,h,λfin=>by rw [cZ,h]⟩
  |none=>
   rcases jV q l (i+1)with ⟨j,y,v,a,d,e⟩|⟨a,d⟩
   ·refine .inl ⟨j+1,y,v,by simpa using a,by rwa [show i+(j+1)=i+1+j by omega],λfin=>?_⟩;rw [cZ,h];exact e fin
   ·refine .inr ⟨λj y b=>?_,λfin=>?_⟩
    ·cases j with
     |zero=>simp at b;subst b;exact h
     |succ j=>have:=a j y (by simpa using b);rwa [show i+(j+1)=i+1+j by omega]
    ·rw [cZ,h];exact d fin
def aOt (l:List Param):Nat->Param->Option (Option (Int×Int)):=λi x=>if sH x=0 then(if (l.take i).any (λy=>decide (y.Name=x.Name))=true then some (some ((i:Int),5))else none)else some (some ((i:Int),sH x))
def cntF:Nat->Param->Int->Int ⊕ Option (Int×Int):=λi x s=>if 4000<IntKind.i64.wrap (s+(gU x 0).length)then .inr (some ((i:Int),3))else .inl (IntKind.i64.wrap (s+(gU x 0).length))
def tkF:Nat->Param->List (fA×Int)->List (fA×Int) ⊕ Option (Int×Int):=λi x m=>if (tkP (i:Int) ((gU x 0).flatMap bM) m).1=true then .inl (tkP (i:Int) ((gU x 0).flatMap bM) m).2 else .inr (some ((i:Int),5))
def tkG:Nat->Param->List (Arr 3 Int×Bool)->List (Arr 3 Int×Bool) ⊕ Option (Int×Int):=λi x m=>if (tkR ((gU x 0).flatMap bM) (true,m)).1=true then .inl (tkR ((gU x 0).flatMap bM) (true,m)).2 else .inr (some ((i:Int),5))
theorem chkL1 (m:Map) (a:SzM m) (r:Option (Int×Int)):Fgp m (λ_=>r) (m.Params.length:Int) 0=cZ (aOt m.Params) r m.Params 0:=by
 unfold Fgp;refine xY m.Params _ _ a.pl (λk i x b d=>?_) (λk=>by simp only [zK,yN,zQ]);have e:=a.ps x (qS b);simp only [zK,yK d,zU,yY b,zC,fQ d a.pl,par_l e,aCu m.Params (by omega:i<=m.Params.length)];rw [contM_eq _ _ (by rw [List.length_take];have:=a.pl;omega),zC,yX];unfold aOt;by_cases c:sH x=0;rw [if_neg (by simpa using c),if_pos c];cases((m.Params.take i).any λy=>decide (y.Name=x.Name))<;>rfl;rw [if_pos c,if_neg c]
theorem chkR1 (m:Map) (b:SzM m) (r:Option (Int×Int)):Ffz m (λ_=>r) (m.Params.length:Int) 0=cZ (aOt m.Params) r m.Params 0:=by
 unfold Ffz;refine xY m.Params _ _ b.pl (λk i x d e=>?_) (λk=>by simp only [zK,yN,zQ]);have f:=b.ps x (qS d);simp only [zK,yO,yK e,zU,yY d,zC,fQ e b.pl,par_2 f,aCu m.Params (by omega:i<=m.Params.length)];have a:(m.Params.take i).length<=9223372036854775807:=by rw [List.length_take];have:=b.pl;omega
 unfold Fjz;rw [aZ (m.Params.take i) (λy=>decide (y.Name=x.Name)) (some ((i:Int),5)) (k ((i+1:Nat):Int)) a (λg _ y g1 g2=>by simp only [zK,yK g2,zU,yY g1,zC,fQ g2 a]) (λg=>by simp only [zK,yN,zQ]),yX];unfold aOt;by_cases c:sH x=0;rw [if_neg (by simpa using c),if_pos c];cases((m.Params.take i).any λy=>decide (y.Name=x.Name))<;>rfl;rw [if_pos c,if_neg c]
theorem chkL2 (m:Map)(a:SzM m)(h: ∀p∈m.Params,sV p)(r:Option (Int×Int)):Fgf m (λ_=>r) (m.Params.length:Int) (0,0)=aP cntF (λ_=>r) m.Params 0 0:=by
 unfold Fgf;refine aNu m.Params cntF (λ_=>r) 0 a.pl (λk _ s x b f=>?_) (λk s=>by simp only [zK,yN,zQ]);have d:=h x (qS b);have hm:=a.ps x (qS b);have g:=aG d.tm 0;have j:(gU x 0).length=(bU x).length*x.Times.toNat:=aBa ..;have n:=d.tm.t1;have e:((bU x).length:Int)*x.Times=((gU x 0).length:Int):=by
  rw [j,Int.natCast_mul]
  congr 1
  omega
 simp only [zK,yK f,zU,yY b,zC,fQ f a.pl,aSq d.tm hm.pl,e,Go.OB.wrap_i64 (by omega: -9223372036854775808<=((gU x 0).length:Int)) (by omega),yX];unfold cntF
 by_cases c:4000<IntKind.i64.wrap (s+(gU x 0).length)
 ·rw [if_pos c,if_pos c]
 ·rw [if_neg c,if_neg c]
theorem chkR3 (m:Map)(a:SzM m)(f: ∀p∈m.Params,sV p)(r:Option (Int×Int)):Fhg m (λ_=>r) (m.Params.length:Int) (0,0)=aP cntF (λ_=>r) m.Params 0 0:=by
 unfold Fhg;refine aNu m.Params cntF (λ_=>r) 0 a.pl (λk i s x b d=>?_) (λk s=>by simp only [zK,yN,zQ]);have e:=f x (qS b);simp only [zK,yK d,zU,yY b,zC,fQ d a.pl,aIi e.pt e.tm,(aAq x (i:Int)).2,yX];unfold cntF;by_cases c:4000<IntKind.i64.wrap (s+(gU x 0).length);rw [if_pos c,if_pos c];rw [if_neg c,if_neg c]
theorem chkL3 (m:Map)(e:SzM m)(j: ∀p∈m.Params,sV p)(r:Option (Int×Int)):Ffq m (λ_=>r) (m.Params.length:Int) (0,[])=aP tkF (λ_=>r) m.Params 0 []:=by
 unfold Ffq;refine aAm m.Params tkF (λ_=>r) [] e.pl (λk i s x f g=>?_) (λk s=>by simp only [zK,yN,zQ]);have d:=j x (qS f);have a:(gU x (i:Int)).length<=9223372036854775807:=Nat.le_trans (aG d.tm _) (by decide);simp only [zK,yO,yK g,zU,yY f,zC,fQ g e.pl,aPh d.pt d.tm];unfold Fj5;rw [aAm (gU x (i:Int)) (λ_ c m=>if (tkP (i:Int) (bM c) m).1=true then .inl (tkP (i:Int) (bM c) m).2 else .inr (some ((i:Int),5))) (λm=>k (((i+1:Nat):Int),m)) s a
  (λk _ m c g1 g2=>by
   have h:=aIg d.pt (qS g1);simp only [zK,yK g2,zU,yY g1,zC,fQ g2 a,take_l _ c.Places m h.1 h.2];show gJ (!(tkP (i:Int) (bM c) m).1) _ (k (_,(tkP (i:Int) (bM c) m).2))=_;rcases tkP (i:Int) (bM c) m with ⟨b,_⟩
   cases b<;>rfl)
  (λk m=>by simp only [zK,yN,zQ]),aNz,(aAq x (i:Int)).1]
 unfold tkF
 by_cases c:(tkP (i:Int) ((gU x 0).flatMap bM) s).1=true
 ·rw [if_pos c,if_pos c]
 ·rw [if_neg c,if_neg c]
theorem chkR4 (m:Map)(f:SzM m)(j: ∀p∈m.Params,sV p)(r:Option (Int×Int)):Ff1 m (λ_=>r) (m.Params.length:Int) (0,[])=aP tkG (λ_=>r) m.Params 0 []:=by
 unfold Ff1;refine aAm m.Params tkG (λ_=>r) [] f.pl (λk i s x g h=>?_) (λk s=>by simp only [zK,yN,zQ]);have a:=j x (qS g);have d:(gU x (i:Int)).length<=9223372036854775807:=Nat.le_trans (aG a.tm _) (by decide);simp only [zK,yK h,zU,yY g,zC,fQ h f.pl,aIi a.pt a.tm,aNo _ _ d (λc n=>aIg a.pt n)];have e:((gU x (i:Int)).flatMap λc=>c.Places.flatMap aH)=(gU x 0).flatMap bM:=(aAq x (i:Int)).1;rw [e];unfold tkG;rcases tkR ((gU x 0).flatMap bM) (true,s)with ⟨b,_⟩
 cases b<;>rfl
theorem tk_two: ∀(l:List Param) (i:Nat) (m:List (fA×Int)) (m':List (Arr 3 Int×Bool)),relB m m'->
  (∃v:Int×Int,v.2≠0/\0<=v.1/\ ∀r a,aP tkF (λ_=>r) l i m=some v/\aP tkG (λ_=>a) l i m'=some v)\/ ∀r a,aP tkF (λ_=>r) l i m=r/\aP tkG (λ_=>a) l i m'=a
 | [],i,m,m',_=> .inr λr a=>⟨rfl,rfl⟩
 |x::l,i,m,m',h=>by
  have c:=aTw (i:Int) ((gU x 0).flatMap bM) m m' h
  cases hb:(tkP (i:Int) ((gU x 0).flatMap bM) m).1 with
  |false=>
   refine .inl ⟨((i:Int),5),(by show(5:Int)≠0;decide),by omega,λr a=>⟨?_,?_⟩⟩
   ·rw [aP,tkF,if_neg (by rw [hb];decide)]
   ·rw [aP,tkG,if_neg (by rw [<-c.1,hb];decide)]
  |true=>
   rcases tk_two l (i+1) _ _ (c.2 hb)with ⟨v,d,e,b⟩|b
   ·refine .inl ⟨v,d,e,λr a=>⟨?_,?_⟩⟩
    ·rw [aP,tkF,if_pos hb];exact(b r a).1
    ·rw [aP,tkG,if_pos (by rw [<-c.1,hb])];exact(b r a).2
   ·refine .inr λr a=>⟨?_,?_⟩
    ·rw [aP,tkF,if_pos hb];exact(b r a).1
    ·rw [aP,tkG,if_pos (by rw [<-c.1,hb])];exact(b r a).2
theorem aWd: ∀(l:List Param) (i:Nat) (s:Int),0<=s->s<=4000->(∀p∈l,(gU p 0).length<=912)->
  (∃v:Int×Int,v.2≠0/\0<=v.1/\ ∀r,aP cntF (λ_=>r) l i s=some v)\/((∀r,aP cntF (λ_=>r) l i s=r)/\s+((l.map λp=>(gU p 0).length).sum:Nat)<=4000)
 | [],i,s,_,h,_=> .inr ⟨λr=>rfl,by simpa using h⟩
 |x::l,i,s,j,h,d=>by
  have k:=d x (List.mem_cons_self ..);have a:IntKind.i64.wrap (s+(gU x 0).length)=s+(gU x 0).length:=Go.OB.wrap_i64 (by omega) (by omega)
  by_cases c:4000<s+(gU x 0).length
  ·refine .inl ⟨((i:Int),3),(by show(3:Int)≠0;decide),by omega,λr=>?_⟩;rw [aP,cntF,a,if_pos c]
  ·rcases aWd l (i+1) (s+(gU x 0).length) (by omega) (by omega) (λp e=>d p (List.mem_cons_of_mem _ e))with ⟨v,f,g,b⟩|⟨b,_⟩
   ·refine .inl ⟨v,f,g,λr=>?_⟩;rw [aP,cntF,a,if_neg c];exact b r
   ·refine .inr ⟨λr=>?_,?_⟩
    ·rw [aP,cntF,a,if_neg c];exact b r
    ·rw [List.map_cons,List.sum_cons];omega
structure MapOk (m:Map):Prop where
 n:m.Params.length<=200
 v0:0<=m.Version
 v1:m.Version<=2047
 all: ∀p∈m.Params,sV p
 names: ∀(j:Nat) (x:Param),m.Params[j]? =some x->(m.Params.take j).any (λy=>decide (y.Name=x.Name))=false
 cnt:(m.Params.map λp=>(gU p 0).length).sum<=4000
theorem map_two {m:Map} (d:SzM m): ∃v:Int×Int,Fav m=some v/\Fa1 m=some v/\(v.2=0->v.1=0/\MapOk m):=by
 unfold Fav Fa4 Fa1;simp only [lwi,out2,zC,zK,yO,nwi];show ∃v:Int×Int,(gB (gJ (cO m.Version 0 2047) _ _) _=_/\gJ (cO m.Version 0 2047) _ _=_/\_)
 cases hv:cO m.Version 0 2047 with
 |true=>exact⟨(0,9),rfl,rfl,λh=>by cases h⟩
 |false=>
  rw [zQ,zQ,yX,yX]
  by_cases c2:200<m.Params.length
  ·rw [if_pos (by omega),if_pos (by omega)];exact⟨(0,3),rfl,rfl,λh=>by cases h⟩
  rw [if_neg (by omega),if_neg (by omega),chkL1 m d,chkR1 m d];rcases jV (aOt m.Params) m.Params 0 with ⟨j,x,v,o,e,f⟩|⟨o,f⟩
  ·rw [f,f];unfold aOt at e;split at e
   ·split at e
    ·cases e
     refine⟨(((0+j:Nat):Int),5),?_,rfl,λh=>by cases h⟩;rw [zC,Int.max_eq_left (by omega)]
    ·cases e
   ·rename_i c
    cases e
    refine⟨(((0+j:Nat):Int),sH x),?_,rfl,λh=>absurd h c⟩;rw [zC,Int.max_eq_left (by omega)]
  rw [f,f];have g: ∀(j:Nat) (x:Param),m.Params[j]? =some x->sH x=0/\(m.Params.take j).any (λy=>decide (y.Name=x.Name))=false:=by
   intro j x i;have:=o j x i;unfold aOt at this;split at this
   ·rename_i c;rw [Nat.zero_add]at this;split at this
    ·cases this
    ·rename_i q;exact⟨c,by simpa using q⟩
   ·cases this
  have a: ∀p∈m.Params,sV p:=by
   intro p n;obtain⟨j,i,rfl⟩:=List.mem_iff_getElem.1 n;exact wK (g j _ (gE i)).1
  rw [chkL2 m d a,chkR3 m d a];rcases aWd m.Params 0 0 (by omega) (by omega) (λp n=>aG (a p n).tm 0)with ⟨v,g1,g2,g3⟩|⟨g3,g4⟩
  ·rw [g3,g3];refine⟨v,?_,rfl,λh=>absurd h g1⟩;rw [zC];show some (max v.1 0,v.2)=_;rw [Int.max_eq_left g2]
  rw [g3,g3,chkL3 m d a,chkR4 m d a];rcases tk_two m.Params 0 [] [] (λ_=>rfl)with ⟨v,g1,g2,g5⟩|g5
  ·rw [(g5 _ none).1,(g5 none _).2];refine⟨v,?_,rfl,λh=>absurd h g1⟩;rw [zC];show some (max v.1 0,v.2)=_;rw [Int.max_eq_left g2]
  ·rw [(g5 _ none).1,(g5 none _).2];have k:=aBm.1 hv;exact⟨(0,0),rfl,rfl,λ_=>⟨rfl,by omega,k.1,k.2,a,λj x i=>(g j x i).2,by omega⟩⟩
def kws:List Str:=[[112,104,97,115,101],[109,111,118,101],[114,117,108,101],[105,102],[111,114],[97,110,100],[116,114,117,101],[102,97,108,115,101],[115,116,101,97,100,121],[110,111,116],[102,111,114],[119,105,116,104,105,110],[99,111,117,110,116],[111,102],[114,105,115,101,115],[115,105,110,99,101]]
theorem ewithin (a b c:Int):Fam a b c=some (decide (b<=a)&&decide (a<=c)):=by
 unfold Fam;simp only [zK,dW,zC]
def isW (s:Str):Bool:=decide (s∈kws)
theorem isWord_eq (s:Str):Fbo s=some (isW s):=by
 unfold Fbo isW kws;simp only [zK,aWw,zC,iteB_id,List.mem_cons,List.not_mem_nil,or_false,Bool.decide_or]
def nmB (c:Int):Bool:=(decide (97<=c)&&decide (c<=122))||(decide (48<=c)&&decide (c<=57))||decide (c=45)
theorem aRg (c:Int):Fb0 c=some (nmB c):=by
 unfold Fb0 nmB;simp only [zK];cases decide (97<=c)<;>cases decide (c<=122)<;>cases decide (48<=c)<;>cases decide (c<=57)<;>cases decide (c=45)<;>rfl
def aMg:Nat->UInt8->Bool:=λ_ c=> !nmB (c.toNat:Int)
theorem isName_L1 (s:Str) (a:okS s) (k:Unit->Option Bool):Fgn s k (s.length:Int) 0=if qR aMg s 0=true then some false else k ():=by
 unfold Fgn;rw [xY s (λi c=>if aMg i c=true then some (some false)else none) (k ()) a];exact uD aMg (some false) (k ()) s 0;intro b i c d hi;unfold aMg;simp only [zK];rw [yK hi,zU,aBk d,zC,aRg,zC];cases nmB (c.toNat:Int);rfl;simp only [Bool.not_true,zQ];rw [fQ hi a];rfl;intro b;simp only [zK];rw [yN];rfl
def aEq (s:Str):Bool:=match s with
 | []=>false
 |c::_=>decide (97<=(c.toNat:Int))&&decide ((c.toNat:Int)<=122)
def aQi (s:Str):Bool:=decide (s.length<=30)&&aEq s&& !isW s&& !qR aMg s 0
theorem isName_eq (s:Str)(a:okS s):Fal s=some (aQi s):=by
 unfold Fal aQi;simp only [zK,zC,ewithin,yO,isName_L1 s a,isWord_eq]
 cases s with
 |nil=>rfl
 |cons c l=>
  have b:byte' (c::l) 0=some (c.toNat:Int):=aBk (i:=0) rfl;have d:decide ((1:Int)<=((c::l).length:Int))=true:=dT (by simp;omega);have e:decide (((c::l).length:Int)<=30)=decide ((c::l).length<=30):=decide_eq_decide.2 (by omega);have f:decide ((c.toNat:Int)<97)= !decide (97<=(c.toNat:Int)):=by rw [<-decide_not];exact decide_eq_decide.2 (by omega)
  have g:decide (122<(c.toNat:Int))= !decide ((c.toNat:Int)<=122):=by rw [<-decide_not];exact decide_eq_decide.2 (by omega)
  rw [b,d,e];simp only [zC,Bool.true_and,f,g,aEq]
  cases decide ((c::l).length<=30)<;>cases decide (97<=(c.toNat:Int))<;>cases decide ((c.toNat:Int)<=122)<;>cases isW (c::l)<;>cases qR aMg (c::l) 0<;>rfl
theorem IsName_eq (s:Str)(a:okS s):Fdk s=some (aQi s):=by
 unfold Fdk;rw [isName_eq s a];rfl
theorem aSo (s:Str):Fdt s=some (isW s):=by
 unfold Fdt Fgw;simp only [zK,zC,yO];change Ffk s kws (λ_=>some false) 0=_;unfold Ffk;rw [xY kws (λ_ x=>if decide (x=s)=true then some (some true)else none) (some false) (by decide)]
 ·rw [uD (λ_ x=>decide (x=s))];have e:qR (λ_ x=>decide (x=s)) kws 0=isW s:=by
   rw [Bool.eq_iff_iff,aRr];unfold isW;simp only [decide_eq_true_eq];constructor
   ·rintro⟨j,x,h,rfl⟩;exact qS h
   ·intro h;obtain⟨j,a⟩:=List.getElem?_of_mem h;exact⟨j,s,a,rfl⟩
  rw [e];cases isW s<;>rfl
 ·intro b _ c d hi;simp only [zK];rw [yK hi,zU,yY d,zC]
  cases decide (c=s)
  ·simp only [zQ];rw [fQ hi (by decide)];rfl
  ·rfl
 ·intro b;simp only [zK];rw [yN];rfl
def badR:Nat->UInt8->Bool:=λi c=> !((decide (97<=(c.toNat:Int))&&decide ((c.toNat:Int)<=122))||(decide (0<(i:Int))&&((decide (48<=(c.toNat:Int))&&decide ((c.toNat:Int)<=57))||decide ((c.toNat:Int)=45))))
theorem aVf (s:Str) (a:okS s) (k:Unit->Option Bool):Ffs s k 0=if qR badR s 0=true then some false else k ():=by
 unfold Ffs;rw [xY s (λi c=>if badR i c=true then some (some false)else none) (k ()) a];exact uD badR (some false) (k ()) s 0;intro b i c d hi;unfold badR;simp only [zK];rw [yK hi,zU,aBk d,zC];rw [fQ hi a];cases decide (97<=(c.toNat:Int))<;>cases decide ((c.toNat:Int)<=122)<;>cases decide (0<(i:Int))<;>cases decide (48<=(c.toNat:Int))<;>cases decide ((c.toNat:Int)<=57)<;>cases decide ((c.toNat:Int)=45)<;>rfl;intro b;simp only [zK];rw [yN];rfl
theorem aUb (s:Str)(a:okS s):Fcx s=some (aQi s):=by
 unfold Fcx aQi;simp only [zK,zC,yO,aVf s a,aSo]
 cases s with
 |nil=>rfl
 |cons c l=>
  have b:decide (((c::l).length:Int)<=30)=decide ((c::l).length<=30):=decide_eq_decide.2 (by omega);have d:decide ((c::l)≠[])=true:=by simp
  have e:qR badR l (0+1)=qR aMg l (0+1):=aJg l (0+1) λj _ _=>by
   have:decide (0<((0+1+j:Nat):Int))=true:=dT (by omega);unfold badR aMg nmB;rw [this];simp only [Bool.true_and,Bool.or_assoc]
  rw [qR,qR,e,b,d];have f:badR 0 c= !(decide (97<=(c.toNat:Int))&&decide ((c.toNat:Int)<=122)):=by unfold badR;simp
  have g:aMg 0 c= !(aEq (c::l)||(decide (48<=(c.toNat:Int))&&decide ((c.toNat:Int)<=57))||decide ((c.toNat:Int)=45)):=rfl;have h:badR 0 c= !aEq (c::l):=f;rw [g,h]
  cases aEq (c::l)<;>cases qR aMg l (0+1)<;>cases decide ((c::l).length<=30)<;>cases isW (c::l)<;>simp [gJ,gB]
end Go.Lf
