/- Laws that the claim stands on; no condition beyond those stated. -/
import Derived.Test.YtbjofgmdhbiekaaGreatDoorUP
import Derived.Test.YtbjofgmdhbiekaaGreatDoorPLb
namespace Go.Lf
open Go.RowKit Go.OB
theorem nwi (a n b:Int):(!(decide (a<=n)&&decide (n<=b)))=(decide (n<a)||decide (b<n)):=by
 by_cases h1:a<=n<;>by_cases c:n<=b;simp [h1,c,Int.not_lt.2 h1,Int.not_lt.2 c];simp [h1,c,Int.not_le.1 c];simp [h1,c,Int.not_le.1 h1];simp [h1,c,Int.not_le.1 h1]
theorem lwi (n a b:Int):Fad n a b=some (decide (a<=n)&&decide (n<=b)):=by
 unfold Fad;simp only [zK,bZ,zC]
theorem fwi (n a b:Int):Fbl n a b=some (decide (a<=n)&&decide (n<=b)):=by
 unfold Fbl;simp only [zK,bZ,zC]
theorem swi (n a b:Int):Faa n a b=some (decide (a<=n)&&decide (n<=b)):=by
 unfold Faa;simp only [zK,bZ,zC]
theorem vwi (n a b:Int):Fbp n a b=some (decide (a<=n)&&decide (n<=b)):=by
 unfold Fbp;simp only [zK,bZ,zC]
theorem out2 (n a b:Int):Fac n a b=some (decide (n<a)||decide (b<n)):=by
 unfold Fac;simp only [zK,xQ,zC]
theorem out5 (n a b:Int):Fab n a b=some (decide (n<a)||decide (b<n)):=by
 unfold Fab;simp only [zK,xQ,zC]
theorem out7 (n a b:Int):Fa2 n a b=some (decide (n<a)||decide (b<n)):=by
 unfold Fa2;simp only [zK,xQ,zC]
def aAe (x:Nat):Bool:=decide (97<=x)&&decide (x<=122)
def vX:Str->Bool
 | []=>false
 |c::t=>decide (t.length<30)&&(aAe c.toNat&&t.all λc=>aY c.toNat)
theorem low_nm {x:Nat}(h:aAe x=true):aY x=true:=by
 unfold aAe at h;unfold aY;rw [h];rfl
theorem aSb (s:Str):Fbs s=some (vX s):=by
 cases s with
 |nil=>rfl
 |cons c t=>
  unfold Fbs vX Ffx;simp only [zK,List.length_cons,show byte' (c::t) 0=some (c.toNat:Int)from aBz (s:=c::t) (i:=0) rfl,zC,xQ];have a:decide (((t.length+1:Nat):Int)<1)=false:=qD (by omega);rw [a];simp only [Bool.false_or];have b:(decide ((c.toNat:Int)<97)||decide (122<(c.toNat:Int)))= !aAe c.toNat:=by
   unfold aAe;have:=nwi 97 (c.toNat:Int) 122;rw [<-this]
   congr 2
   ·exact decide_eq_decide.2 (by omega)
   ·exact decide_eq_decide.2 (by omega)
  rw [Bool.or_assoc,b];have d:(!(c::t).any λc=> !aY c.toNat)=(c::t).all λc=>aY c.toNat:=by
   rw [List.any_eq_not_all_not];simp
  rw [d,List.all_cons];have e:decide (30<((t.length+1:Nat):Int))= !decide (t.length<30):=by
   by_cases h:t.length<30
   ·rw [dT h];exact qD (by omega)
   ·rw [qD h];exact dT (by omega)
  rw [e]
  cases h1:decide (t.length<30)with
  |false=>rfl
  |true=>
   cases h2:aAe c.toNat with
   |false=>rfl
   |true=>rw [low_nm h2];rfl
theorem aUe (s:Str) (d:s.length<=9223372036854775807):Fbz s=some (vX s):=by
 unfold Fbz Fj1;rw [yN];rw [xY s (λi c=>if (!(aAe c.toNat||(decide (0<i)&&aY c.toNat)))=true then some (some false)else none) (some (decide (1<=(s.length:Int))&&decide ((s.length:Int)<=30))) d]
 ·rw [uI]
  cases s with
  |nil=>rfl
  |cons c t=>
   have e:rH (λi (c:UInt8)=> !(aAe c.toNat||(decide (0<i)&&aY c.toNat))) (c::t) 0= !(aAe c.toNat&&t.all λc=>aY c.toNat):=by
    rw [rH];have f: ∀(l:List UInt8) (i:Nat),rH (λi (c:UInt8)=> !(aAe c.toNat||(decide (0<i)&&aY c.toNat))) l (i+1)= !(l.all λc=>aY c.toNat):=by
     intro l
     induction l with
     |nil=>intro i;rfl
     |cons x l g=>
      intro i;rw [rH,g,List.all_cons];have:(aAe x.toNat||(decide (0<i+1)&&aY x.toNat))=aY x.toNat:=by
       rw [dT (Nat.succ_pos i),Bool.true_and]
       cases h:aAe x.toNat with
       |false=>rfl
       |true=>rw [low_nm h];rfl
      rw [this]
      cases aY x.toNat<;>rfl
    rw [f];simp only [Nat.lt_irrefl,decide_false,Bool.false_and,Bool.or_false]
    cases aAe c.toNat<;>rfl
   rw [e,show vX (c::t)=(decide (t.length<30)&&(aAe c.toNat&&t.all λc=>aY c.toNat))from rfl];have a:decide (1<=(((c::t).length:Nat):Int))=true:=dT (by rw [List.length_cons];omega);have b:decide ((((c::t).length:Nat):Int)<=30)=decide (t.length<30):=decide_eq_decide.2 (by rw [List.length_cons];omega);rw [a,b]
   cases aAe c.toNat<;>cases(t.all λc=>aY c.toNat)<;>cases decide (t.length<30)<;>rfl
 ·intro k i c j hi;simp only [zK,yH hi,zV,aBz j,zC,bZ];have a:(decide (97<=(c.toNat:Int))&&decide ((c.toNat:Int)<=122))=aAe c.toNat:=by
   unfold aAe;congr 1<;>exact decide_eq_decide.2 (by omega)
  have b:decide (0<(i:Int))=decide (0<i):=decide_eq_decide.2 (by omega);rw [a,b];have m:gJ (decide (48<=(c.toNat:Int))&&decide ((c.toNat:Int)<=57)) (some false) (some !decide ((c.toNat:Int)=45))=some !((decide (48<=c.toNat)&&decide (c.toNat<=57))||decide (c.toNat=45)):=by
   have n:decide (48<=(c.toNat:Int))=decide (48<=c.toNat):=decide_eq_decide.2 (by omega);have a2:decide ((c.toNat:Int)<=57)=decide (c.toNat<=57):=decide_eq_decide.2 (by omega);have a3:decide ((c.toNat:Int)=45)=decide (c.toNat=45):=decide_eq_decide.2 (by omega);rw [n,a2,a3]
   cases(decide (48<=c.toNat)&&decide (c.toNat<=57))<;>rfl
  rw [m,fO hi d];have o:aY c.toNat=(aAe c.toNat||((decide (48<=c.toNat)&&decide (c.toNat<=57))||decide (c.toNat=45))):=by
   unfold aY aAe;rw [Bool.or_assoc]
  rw [o];generalize aAe c.toNat=b1;generalize ((decide (48<=c.toNat)&&decide (c.toNat<=57))||decide (c.toNat=45))=b2;generalize decide (0<i)=b3
  cases b1<;>cases b2<;>cases b3<;>rfl
 ·intro k;simp only [zK,yK,zT,bZ,zC]
theorem xE {b c:Type}{body:(b->Option c)->b->Option c}(a:Nat->b)(n:Nat){g0:b}{r:Option c}(d:n<=9223372036854775807)(e:g0=a 0)
    (h: ∀k i,i<n->body k (a i)=k (a (i+1)))(f: ∀k,body k (a n)=r):fA body g0=r:=by
 subst e;have:=loopO_at (body:=body) a (List.replicate n ()) r (by simpa using d) (λk i _ _ hi=>h k i (by simpa using hi)) (λk=>by rw [List.length_replicate];exact f k);exact this
theorem cZ {a:Type}{l:List a}{i:Nat}{x:a}(h:l[i]? =some x):l.take (i+1)=l.take i++[x]:=by
 rw [List.take_add_one,h];rfl
def aLc {a:Type}(p:a->Bool):List a->Nat->Int
 | [],_=> -1
 |x::l,i=>if p x=true then(i:Int)else aLc p l (i+1)
theorem sH {a:Type}(p:a->Bool): ∀(l:List a) (i:Nat),decide (0<=aLc p l i)=l.any p
 | [],_=>rfl
 |x::l,i=>by
  rw [aLc,List.any_cons]
  cases h:p x with
  |true=>rw [if_pos rfl,Bool.true_or];exact dT (by omega)
  |false=>rw [if_neg (by decide),Bool.false_or];exact sH p l (i+1)
theorem nD {a:Type}{body:(Int->Option Int)->Int->Option Int}(l:List a)(p:a->Bool)(b:l.length<=9223372036854775807)
  (h: ∀k (i:Nat) x,l[i]? =some x->i<l.length->body k (i:Int)=gJ (p x) (some (i:Int)) (k ((i+1:Nat):Int)))(c: ∀k,body k (l.length:Int)=some (-1)):fA body 0=some (aLc p l 0):=by
 rw [xY l (λi x=>if p x=true then some (some (i:Int))else none) (some (-1)) b (λk i x h1 d=>by rw [h k i x h1 d];cases p x<;>rfl) c];have: ∀(l:List a) (i:Nat),bW (λi x=>if p x=true then some (some (i:Int))else none) (some (-1)) l i=some (aLc p l i):=by
  intro l
  induction l with
  |nil=>intro i;rfl
  |cons x l e=>
   intro i;rw [bW,aLc]
   cases p x with
   |true=>rfl
   |false=>exact e (i+1)
 exact this l 0
theorem contI_eq (l:List Int)(c:Int)(a:l.length<=9223372036854775807):Fck l c=some (l.any λy=>decide (c=y)):=by
 unfold Fck Ffm Fiw;rw [yN,zK,nD l (λy=>decide (c=y)) a (λk _ _ h1 b=>by simp only [zK,yH b,zV,yU h1,zC,fO b a]) (λk=>by simp only [zK,yK,zT]),zC,zK,sH]
theorem contS_eq (l:List Str)(c:Str)(a:l.length<=9223372036854775807):Fas l c=some (l.any λy=>decide (c=y)):=by
 unfold Fas Fcg Fjl;rw [yN,zK,nD l (λy=>decide (c=y)) a (λk _ _ h1 b=>by simp only [zK,yH b,zV,yU h1,zC,fO b a]) (λk=>by simp only [zK,yK,zT]),zC,zK,sH]
theorem contM_eq (l:List Param)(c:Param)(a:l.length<=9223372036854775807):Fdp l c=some (l.any λy=>decide (y.Name=c.Name)):=by
 unfold Fdp Fep Fjf;rw [yN,zK,nD l (λy=>decide (y.Name=c.Name)) a (λk _ _ h1 b=>by simp only [zK,yH b,zV,yU h1,zC,fO b a,Fgd]) (λk=>by simp only [zK,yK,zT]),zC,zK,sH]
theorem contP_eq (l:List Part)(c:Int)(a:l.length<=9223372036854775807):Fcz l c=some (l.any λy=>decide (16<=IntKind.i64.wrap (c+y.Frame))):=by
 unfold Fcz Fe2 Fhw;rw [yN,zK,nD l (λy=>decide (16<=IntKind.i64.wrap (c+y.Frame))) a (λk _ _ h1 b=>by simp only [zK,yH b,zV,yU h1,zC,fO b a,Fe4]) (λk=>by simp only [zK,yK,zT]),zC,zK,sH]
theorem jS {a b:Type}{body:(Int->Option b)->Int->Option b}(l:List a)(p:a->Bool)(r fin:Option b)(c:l.length<=9223372036854775807)
  (h: ∀k (i:Nat) x,l[i]? =some x->i<l.length->body k (i:Int)=gJ (p x) r (k ((i+1:Nat):Int)))(d: ∀k,body k (l.length:Int)=fin):fA body 0=gJ (l.any p) r fin:=by
 rw [xY l (λ_ x=>if p x=true then some r else none) fin c (λk i x h1 e=>by rw [h k i x h1 e];cases p x<;>rfl) d];have: ∀(l:List a) (i:Nat),bW (λ_ x=>if p x=true then some r else none) fin l i=gJ (l.any p) r fin:=by
  intro l
  induction l with
  |nil=>intro i;rfl
  |cons x l f=>
   intro i;rw [bW,List.any_cons]
   cases p x with
   |true=>rfl
   |false=>exact f (i+1)
 exact this l 0
theorem aNz {e b:Type}{body:(Int->Option b)->Int->Option b}(l:List e)(p:e->Bool)(r fin:Option b)(g:l.length<=9223372036854775807)
  (h: ∀k (i:Nat) x,l[i]? =some x->i<l.length->body k (i:Int)=gJ (p x) r (k ((i+1:Nat):Int)))(j:l.any p=false-> ∀k,body k (l.length:Int)=fin):fA body 0=gJ (l.any p) r fin:=by
 have c: ∀(d i n:Nat),i+d=l.length->d<n->(l.take i).any p=false->jC body n (i:Int)=gJ (l.any p) r fin:=by
  intro d
  induction d with
  |zero=>
   intro i n h1 o a;obtain⟨m,rfl⟩: ∃m,n=m+1:=⟨n-1,by omega⟩;obtain rfl:i=l.length:=by omega
   rw [List.take_length]at a;rw [jC,j a,a];rfl
  |succ d q=>
   intro i n h1 o a;obtain⟨m,rfl⟩: ∃m,n=m+1:=⟨n-1,by omega⟩;have hi:i<l.length:=by omega
   have f:l[i]? =some l[i]:=gE hi;rw [jC,h _ i _ f hi]
   cases hp:p l[i]with
   |true=>
    have:l.any p=true:=List.any_eq_true.2 ⟨l[i],List.getElem_mem hi,hp⟩;rw [this];rfl
   |false=>
    refine q (i+1) m (by omega) (by omega) ?_;rw [cZ f,List.any_append,a,List.any_cons,hp];rfl
 exact c l.length 0 FU (by omega) (aPb g) rfl
def nY (l:List Part):Int:=l.foldl (λs x=>IntKind.i64.wrap (s+x.Bits)) 0
theorem aOh {b a σ:Type}{body:(σ×Int->Option a)->σ×Int->Option a}(l:List b)(f:σ->b->σ)(fin:σ->Option a)(s:σ)(c:l.length<=9223372036854775807)
  (h: ∀k (i:Nat) s x,l[i]? =some x->i<l.length->body k (s,(i:Int))=k (f s x,((i+1:Nat):Int)))(d: ∀k s,body k (s,(l.length:Int))=fin s):fA body (s,0)=fin (l.foldl f s):=
 aKd (λ(i:Nat) (s:σ)=>(s,(i:Int))) l f fin c h d s
theorem aRc (p:Param)(a:p.Parts.length<=9223372036854775807):Fax p=some (nY p.Parts):=by
 unfold Fax Fif;rw [zK,aOh p.Parts (λs x=>IntKind.i64.wrap (s+x.Bits)) (λs=>some s) 0 a (λk _ s x h1 b=>by simp only [zK,yH b,zV,yU h1,zC,fO b a]) (λk s=>by simp only [zK,yK,zT])];rfl
theorem aOx (p:Param)(a:p.Parts.length<=9223372036854775807):Fa8 p=some (nY p.Parts):=aRc p a
def bV (n a b:Int):Bool:=decide (n<a)||decide (b<n)
theorem aCg {n a b:Int}:bV n a b=false↔a<=n/\n<=b:=by
 unfold bV;simp only [Bool.or_eq_false_iff,decide_eq_false_iff_not];omega
def kW (x:Part):Bool:=((bV x.Frame 0 15||bV x.Word 4 60)||bV x.Low 0 10)||bV x.Bits 1 (IntKind.i64.wrap (11-x.Low))
def pfM (p:Param):Int:=if p.Parts.length=0 then 13 else if 8<p.Parts.length then 3 else if p.Parts.any kW=true then 9 else if 40<nY p.Parts then 3 else 0
theorem pf_2 (p:Param) (a:p.Parts.length<=9223372036854775807):Fdb p=some (pfM p):=by
 unfold Fdb pfM Fjh;have c:((8:Int)<(p.Parts.length:Int))↔8<p.Parts.length:=by omega
 have d:((p.Parts.length:Int)=0)↔p.Parts.length=0:=by omega
 repeat (first |rw [zK]|rw [yN]|rw [zC])
 rw [jS p.Parts kW (some 9) (if 40<nY p.Parts then some 3 else some 0) a]
 ·simp only [xA,c,d];split
  ·rfl
  ·split
   ·rfl
   ·cases p.Parts.any kW with
    |true=>rfl
    |false=>simp only [zT,Bool.false_eq_true,if_false];split<;>rfl
 ·intro k _ _ h1 b;simp only [zK,yH b,zV,yU h1,zC,fO b a,out2,xQ];rfl
 ·intro k;simp only [zK,yK,zT,aOx p a,zC,xA]
theorem aLv {x:Part}(h:kW x=false):0<=x.Frame/\x.Frame<=15/\4<=x.Word/\x.Word<=60/\0<=x.Low/\x.Low<=10/\1<=x.Bits/\x.Low+x.Bits<=11:=by
 unfold kW at h;simp only [Bool.or_eq_false_iff,aCg]at h;obtain⟨⟨⟨h1,_⟩,_⟩,a⟩:=h;rw [Go.OB.wrap_i64 (by omega) (by omega)]at a;omega
def uP (p:Param):Bool:= !(decide (p.Every=1)||(decide (p.Every=2)||(decide (p.Every=4)||(decide (p.Every=8)||decide (p.Every=16)))))||(bV p.First 0 (p.Every-1)||(bV p.Times 1 57||(decide (p.Step<0)|| !(decide (p.Step=0)==decide (p.Times=1)))))
def rQ (p:Param)(x:Part):Bool:=decide (57<p.Step)||decide (60<x.Word+(p.Times-1)*p.Step)
def tfM (p:Param):Int:=if uP p=true then 9 else if p.Parts.any (λx=>rQ p x)=true then 9 else 0
structure aI (p:Param):Prop where
 ev:p.Every=1\/p.Every=2\/p.Every=4\/p.Every=8\/p.Every=16
 f0:0<=p.First
 f1:p.First<p.Every
 t1:1<=p.Times
 t2:p.Times<=57
 s0:0<=p.Step
 s1:p.Step=0↔p.Times=1
theorem aRa {p:Param}(h:uP p=false):aI p:=by
 unfold uP at h;simp only [Bool.or_eq_false_iff,aCg,Bool.not_eq_false',Bool.or_eq_true,decide_eq_true_eq,decide_eq_false_iff_not,beq_iff_eq,decide_eq_decide]at h;obtain⟨h1,⟨a,_⟩,⟨b,c⟩,_,d⟩:=h;exact⟨h1,a,by omega,b,c,by omega,d⟩
theorem every_l (n:Int):([1,2,4,8,16]:List Int).any (λy=>decide (n=y))=(decide (n=1)||(decide (n=2)||(decide (n=4)||(decide (n=8)||decide (n=16))))):=by
 simp only [List.any_cons,List.any_nil,Bool.or_false]
theorem prod_le {a b:Int}(h1:0<=a)(d:a<=56)(c:0<=b)(e:b<=60):0<=a*b/\a*b<=3360:=by
 refine⟨Int.mul_nonneg h1 c,?_⟩;have:=Int.mul_le_mul d e c (by omega:(0:Int)<=56);omega
structure qX (p:Param):Prop where
 n1:1<=p.Parts.length
 n8:p.Parts.length<=8
 all: ∀x∈p.Parts,kW x=false
 sum:nY p.Parts<=40
theorem aOk {p:Param} (h:pfM p=0):qX p:=by
 unfold pfM at h;split at h
 ·cases h
 ·split at h
  ·cases h
  ·split at h
   ·cases h
   ·split at h
    ·cases h
    ·rename_i h1 _ a _;refine⟨by omega,by omega,λx b=>?_,by omega⟩
     cases hb:kW x with
     |false=>rfl
     |true=>exact absurd (List.any_eq_true.2 ⟨x,b,hb⟩) a
theorem aZx (p:Param):(!(decide (p.Every=1)||(decide (p.Every=2)||(decide (p.Every=4)||(decide (p.Every=8)||decide (p.Every=16)))))||(decide (p.First<0)||decide (IntKind.i64.wrap (p.Every-1)<p.First))||(decide (p.Times<1)||decide (57<p.Times))||decide (p.Step<0)|| !(decide (p.Step=0)==decide (p.Times=1)))=uP p:=by
 unfold uP bV
 by_cases a:(decide (p.Every=1)||(decide (p.Every=2)||(decide (p.Every=4)||(decide (p.Every=8)||decide (p.Every=16)))))=true
 ·have:IntKind.i64.wrap (p.Every-1)=p.Every-1:=by
   simp only [Bool.or_eq_true,decide_eq_true_eq]at a;exact Go.OB.wrap_i64 (by omega) (by omega)
  rw [this];simp only [Bool.or_assoc]
 ·rw [Bool.not_eq_true]at a;rw [a];rfl
theorem aHe {a:Type}{p q:a->Bool}{l:List a}(h: ∀x∈l,p x=q x):l.any p=l.any q:=by
 rw [Bool.eq_iff_iff,List.any_eq_true,List.any_eq_true];constructor<;>rintro⟨x,h1,_⟩;exact⟨x,h1,by rwa [<-h x h1]⟩;exact⟨x,h1,by rwa [h x h1]⟩
theorem aVy {p:Param}{x:Part} (a:aI p) (b:kW x=false):(decide (60<p.Step)||decide (60<IntKind.i64.wrap (x.Word+IntKind.i64.wrap (IntKind.i64.wrap (p.Times-1)*p.Step))))=rQ p x:=by
 have d:=aLv b;have t1:=a.t1;have t2:=a.t2;unfold rQ;rw [Go.OB.wrap_i64 (by omega: -9223372036854775808<=p.Times-1) (by omega)]
 by_cases c:p.Step<=60
 ·have e:=prod_le (by omega:0<=p.Times-1) (by omega) a.s0 c;rw [Go.OB.wrap_i64 (n:=(p.Times-1)*p.Step) (by omega) (by omega),Go.OB.wrap_i64 (by omega) (by omega)]
  by_cases c1:57<p.Step
  ·have:1<p.Times:=by have:=a.s1;omega
   have f:p.Step<=(p.Times-1)*p.Step:=by
    have:=Int.mul_le_mul_of_nonneg_right (by omega:(1:Int)<=p.Times-1) a.s0;omega
   rw [dT c1,dT (by omega:60<x.Word+(p.Times-1)*p.Step)];simp
  ·rw [qD c1,qD (by omega: ¬60<p.Step)]
 ·rw [dT (by omega:60<p.Step),dT (by omega:57<p.Step)];rfl
theorem last_2 {p:Param}{x:Part} (a:aI p) (b:kW x=false):((decide (1<p.Times)&&decide (57<p.Step))||decide (60<IntKind.i64.wrap (x.Word+IntKind.i64.wrap (IntKind.i64.wrap (p.Times-1)*p.Step))))=rQ p x:=by
 rw [<-aVy a b];have c:=aLv b;have t1:=a.t1;have t2:=a.t2;by_cases c1:57<p.Step;have h1:1<p.Times:=by have:=a.s1;omega
 rw [aVy a b];unfold rQ;rw [dT c1,dT h1];rfl;rw [qD c1,qD (by omega: ¬60<p.Step),Bool.and_false]
theorem pf_l (p:Param) (b:p.Parts.length<=9223372036854775807):Fcs p=some (if pfM p=0 then tfM p else pfM p):=by
 unfold Fcs Fjg;have e:((8:Int)<(p.Parts.length:Int))↔8<p.Parts.length:=by omega
 have f:((p.Parts.length:Int)=0)↔p.Parts.length=0:=by omega
 repeat (first |rw [zK]|rw [yN]|rw [zC])
 simp only [xA,e,f]
 by_cases c1:p.Parts.length=0
 ·rw [if_pos c1,show pfM p=13 by unfold pfM;rw [if_pos c1]];rfl
 rw [if_neg c1]
 by_cases c2:8<p.Parts.length
 ·rw [if_pos c2,show pfM p=3 by unfold pfM;rw [if_neg c1,if_pos c2]];rfl
 rw [if_neg c2];rw [aNz p.Parts kW (some 9) (if 40<nY p.Parts then some 3 else some (tfM p)) b]
 ·cases c3:p.Parts.any kW with
  |true=>rw [show pfM p=9 by unfold pfM;rw [if_neg c1,if_neg c2,if_pos c3]];rfl
  |false=>
   rw [zT]
   by_cases c4:40<nY p.Parts
   ·rw [if_pos c4,show pfM p=3 by unfold pfM;rw [if_neg c1,if_neg c2,c3,if_neg (by decide),if_pos c4]];rfl
   ·rw [if_neg c4,show pfM p=0 by unfold pfM;rw [if_neg c1,if_neg c2,c3,if_neg (by decide),if_neg c4]];rfl
 ·intro k i x h1 c;simp only [zK,yH c,zV,yU h1,zC,fO c b,lwi,xQ,nwi];rfl
 ·intro c3 k;have a: ∀x∈p.Parts,kW x=false:=λx d=>by
   cases hb:kW x with
   |false=>rfl
   |true=>rw [List.any_eq_true.2 ⟨x,d,hb⟩]at c3;cases c3
  simp only [zK,yK,zT,aRc p b,zC,xA]
  by_cases c4:40<nY p.Parts
  ·rw [if_pos c4,if_pos c4]
  rw [if_neg c4,if_neg c4];simp only [contI_eq _ _ (by decide:([1,2,4,8,16]:List Int).length<=9223372036854775807),zC,lwi,nwi,xQ,every_l];have g:=aZx p;rw [g]
  cases hb:uP p with
  |true=>rw [tfM,hb];rfl
  |false=>
   rw [zT];have h:=aRa hb;unfold Fh2;rw [jS p.Parts (λx=>decide (60<p.Step)||decide (60<IntKind.i64.wrap (x.Word+IntKind.i64.wrap (IntKind.i64.wrap (p.Times-1)*p.Step)))) (some 9) (some 0) b]
   ·rw [tfM,hb,aHe (λx d=>aVy h (a x d)),if_neg (by decide)]
    cases(p.Parts.any λx=>rQ p x)<;>rfl
   ·intro k i x h1 c;simp only [zK,yH c,zV,yU h1,zC,fO c b,xQ]
   ·intro k;simp only [zK,yK,zT]
theorem tf_2 (p:Param) (c:p.Parts.length<=9223372036854775807) (a: ∀x∈p.Parts,kW x=false):Fef p=some (tfM p):=by
 unfold Fef;simp only [zK,zC,out2,xQ];have e:(gJ (decide (p.Every=1)) (some (decide (p.Every=1))) (gJ (decide (p.Every=2)) (some (decide (p.Every=2))) (gJ (decide (p.Every=4)) (some (decide (p.Every=4))) (gJ (decide (p.Every=8)) (some (decide (p.Every=8))) (some (decide (p.Every=16)))))))=some (decide (p.Every=1)||(decide (p.Every=2)||(decide (p.Every=4)||(decide (p.Every=8)||decide (p.Every=16))))):=by
  simp only [aXv]
 rw [e,zC];have b:=aZx p
 cases hE:(decide (p.Every=1)||(decide (p.Every=2)||(decide (p.Every=4)||(decide (p.Every=8)||decide (p.Every=16)))))with
 |false=>
  rw [hE]at b;rw [zT,tfM,<-b];rfl
 |true=>
  rw [hE]at b;simp only [Bool.not_true,Bool.false_or]at b;rw [zV,b]
  cases hb:uP p with
  |true=>rw [tfM,hb];rfl
  |false=>
   rw [zT,yN];have f:=aRa hb;unfold Fj3;rw [jS p.Parts (λx=>(decide (1<p.Times)&&decide (57<p.Step))||decide (60<IntKind.i64.wrap (x.Word+IntKind.i64.wrap (IntKind.i64.wrap (p.Times-1)*p.Step)))) (some 9) (some 0) c]
   ·rw [tfM,hb,aHe (λx g=>last_2 f (a x g)),if_neg (by decide)]
    cases(p.Parts.any λx=>rQ p x)<;>rfl
   ·intro k _ x h1 d;simp only [zK,yH d,zV,yU h1,zC,fO d c,xQ,bZ]
   ·intro k;simp only [zK,yK,zT]
def kcM (K B:Int):Bool:=((decide (K=4)&&decide (B.tmod 4≠0))||(decide (K=5)&&decide (B≠1)))||((decide (K=2)||decide (K=3))&&decide (B=1))
def aWg:List Str->Int:=λl=>match bW (λi x=>if vX x=true then(if (l.take i).any (λy=>decide (x=y))=true then some (some 5)else none)else some (some 8)) (some 0) l 0 with
 |some n=>n
 |none=>0
def kfM (p:Param):Int:=if kcM p.Kind (nY p.Parts)=true then 2 else if p.Kind≠6 then(if 0<p.Names.length then 2 else 0)else if p.Names.length=0 then 13 else if 64<p.Names.length\/(2:Int)^(nY p.Parts).toNat<p.Names.length then 3 else aWg p.Names
theorem aNv (l:List Str):bW (λi x=>if vX x=true then(if (l.take i).any (λy=>decide (x=y))=true then some (some (5:Int))else none)else some (some 8)) (some 0) l 0=some (aWg l):=by
 have: ∀(m:List Str) (i:Nat),∃n,bW (λi x=>if vX x=true then(if (l.take i).any (λy=>decide (x=y))=true then some (some (5:Int))else none)else some (some 8)) (some 0) m i=some n:=by
  intro m
  induction m with
  |nil=>intro i;exact⟨0,rfl⟩
  |cons x m c=>
   intro i;rw [bW]
   by_cases h1:vX x=true
   ·rw [if_pos h1]
    by_cases a:(l.take i).any (λy=>decide (x=y))=true
    ·rw [if_pos a];exact⟨5,rfl⟩
    ·rw [if_neg a];exact c (i+1)
   ·rw [if_neg h1];exact⟨8,rfl⟩
 obtain⟨n,b⟩:=this l 0;rw [b,aWg,b]
theorem aJi: ∀(l:List Part) (s:Int),(∀x∈l,kW x=false)->0<=s->s+11*l.length<=1000->l.foldl (λs x=>IntKind.i64.wrap (s+x.Bits)) s=s+(l.map Part.Bits).sum/\0<=(l.map Part.Bits).sum/\(l.map Part.Bits).sum<=11*l.length
 | [],s,_,_,_=>by simp
 |x::l,s,h,b,h1=>by
  have c:=aLv (h x (List.mem_cons_self ..));rw [List.length_cons]at h1;rw [List.foldl_cons,Go.OB.wrap_i64 (by omega) (by omega)];have:=aJi l (s+x.Bits) (λy a=>h y (List.mem_cons_of_mem _ a)) (by omega) (by omega);rw [this.1,List.map_cons,List.sum_cons,List.length_cons];omega
theorem aJu {p:Param}(h:qX p):1<=nY p.Parts:=by
 have h1:=h.n1;have a:=h.n8;have:=aJi p.Parts 0 h.all (by omega) (by omega);unfold nY;rw [this.1]
 cases hp:p.Parts with
 |nil=>rw [hp]at h1;simp at h1
 |cons x l=>
  have c:=aLv (h.all x (by rw [hp];exact List.mem_cons_self ..));have d:=aJi l 0 (λy b=>h.all y (by rw [hp];exact List.mem_cons_of_mem _ b)) (by omega) (by rw [hp]at a;simp at a;omega);rw [List.map_cons,List.sum_cons];omega
theorem shl_1 {n:Int}(a:0<=n)(h:n<=40):jV .i64 1 n=some ((2:Int)^n.toNat):=by
 unfold jV;have e:(IntKind.i64.bits:Int)=64:=rfl;rw [if_pos ⟨a,by rw [e];omega⟩];have h1:(2:Int)^n.toNat<=2^40:=by
  have:(2:Nat)^n.toNat<=2^40:=Nat.pow_le_pow_right (by decide) (by omega)
  exact_mod_cast this
 have b:(0:Int)<=2^n.toNat:=Int.pow_nonneg (by decide);rw [Int.one_mul,Go.OB.wrap_i64 (by omega) (by omega)]
theorem rem_4 (n:Int):jF n 4=some (n.tmod 4):=by unfold jF;rw [if_neg (by decide)]
theorem kf_l (p:Param) (g:p.Parts.length<=9223372036854775807) (d:p.Names.length<=9223372036854775807) (e:qX p):Fdt p=some (kfM p):=by
 have h:=aJu e;have b:=e.sum;unfold Fdt kfM;simp only [aRc p g,rem_4,shl_1 (by omega:0<=nY p.Parts) b,zC,zK,yN,bZ,xQ];show gJ (kcM p.Kind (nY p.Parts)) _ _=_
 cases kcM p.Kind (nY p.Parts)with
 |true=>rfl
 |false=>
  rw [zT,if_neg (by decide),xA]
  by_cases a:p.Kind≠6
  ·rw [if_pos a,if_pos a,xA]
   by_cases c:0<p.Names.length
   ·rw [if_pos c,if_pos (by omega)]
   ·rw [if_neg c,if_neg (by omega)]
  rw [if_neg a,if_neg a,xA]
  by_cases c0:p.Names.length=0
  ·rw [if_pos c0,if_pos (by omega)]
  rw [if_neg c0,if_neg (by omega)]
  by_cases c1:64<p.Names.length\/(2:Int)^(nY p.Parts).toNat<p.Names.length
  ·rw [if_pos c1];have:(decide (64<(p.Names.length:Int))||decide ((2:Int)^(nY p.Parts).toNat<(p.Names.length:Int)))=true:=by
    rw [Bool.or_eq_true,decide_eq_true_eq,decide_eq_true_eq];omega
   rw [this];rfl
  rw [if_neg c1];have:(decide (64<(p.Names.length:Int))||decide ((2:Int)^(nY p.Parts).toNat<(p.Names.length:Int)))=false:=by
   rw [Bool.or_eq_false_iff,decide_eq_false_iff_not,decide_eq_false_iff_not];omega
  rw [this,zT,<-aNv];unfold Fhy;refine xY p.Names _ _ d (λk i x h1 f=>?_) (λk=>by simp only [zK,yK,zT]);simp only [zK,yH f,zV,yU h1,zC,fO f d,aSb,aDc p.Names (by omega:i<=p.Names.length)]
  cases vX x with
  |false=>rfl
  |true=>
   rw [if_pos rfl,contS_eq _ _ (by rw [List.length_take];omega)]
   cases((p.Names.take i).any λy=>decide (x=y))<;>rfl
theorem kf_2 (p:Param) (h:p.Parts.length<=9223372036854775807) (e:p.Names.length<=9223372036854775807) (l: ∀s∈p.Names,s.length<=9223372036854775807) (f:qX p):Fc6 p=some (kfM p):=by
 have n:=aJu f;have d:=f.sum;unfold Fc6 kfM;simp only [aOx p h,rem_4,shl_1 (by omega:0<=nY p.Parts) d,zC,zK,yN,bZ,xQ];show gJ (kcM p.Kind (nY p.Parts)) _ _=_
 cases kcM p.Kind (nY p.Parts)with
 |true=>rfl
 |false=>
  rw [zT,if_neg (by decide),xA]
  by_cases b:p.Kind≠6
  ·rw [if_pos b,if_pos b,xA]
   by_cases c:0<p.Names.length
   ·rw [if_pos c,if_pos (by omega)]
   ·rw [if_neg c,if_neg (by omega)]
  rw [if_neg b,if_neg b,xA]
  by_cases c0:p.Names.length=0
  ·rw [if_pos c0,if_pos (by omega)]
  rw [if_neg c0,if_neg (by omega)]
  by_cases c1:64<p.Names.length\/(2:Int)^(nY p.Parts).toNat<p.Names.length
  ·rw [if_pos c1];have:(decide (64<(p.Names.length:Int))||decide ((2:Int)^(nY p.Parts).toNat<(p.Names.length:Int)))=true:=by
    rw [Bool.or_eq_true,decide_eq_true_eq,decide_eq_true_eq];omega
   rw [this];rfl
  rw [if_neg c1];have:(decide (64<(p.Names.length:Int))||decide ((2:Int)^(nY p.Parts).toNat<(p.Names.length:Int)))=false:=by
   rw [Bool.or_eq_false_iff,decide_eq_false_iff_not,decide_eq_false_iff_not];omega
  rw [this,zT,<-aNv];unfold Fja;refine xY p.Names _ _ e (λk i x h1 g=>?_) (λk=>by simp only [zK,yK,zT]);simp only [zK,yN,yH g,zV,yU h1,zC,fO g e,aUe x (l x (qS h1)),aDc p.Names (by omega:i<=p.Names.length)]
  cases vX x with
  |false=>rfl
  |true=>
   rw [if_pos rfl];unfold Fi9;have a:(p.Names.take i).length<=9223372036854775807:=by rw [List.length_take];omega
   rw [jS (p.Names.take i) (λy=>decide (x=y)) (some 5) (k ((i+1:Nat):Int)) a (λm _ y g1 g2=>by simp only [zK,yH g2,zV,yU g1,zC,fO g2 a]) (λm=>by simp only [zK,yK,zT])]
   cases((p.Names.take i).any λy=>decide (x=y))<;>rfl
theorem kS {b:Type}{a:Nat}{l m:List b}(h:l.length+m.length<=100000000)(c:a<=1000):app' a l m=some (l++m):=by
 unfold app';rw [if_pos];have e:maxLen=9223372036854775807:=maxLen_eq;refine⟨by omega,?_⟩;have:=Nat.mul_le_mul h c;omega
def stL (p:Param):List Int:=(List.range (16/p.Every).toNat).map λ(k:Nat)=>p.First+(k:Int)*p.Every
def aDh (p:Param)(s:Int):Bool:= !(p.Parts.any λy=>decide (16<=IntKind.i64.wrap (s+y.Frame)))
def aC (p:Param):List Int:=(stL p).filter (aDh p)
def wM (p:Param)(s t:Int)(y:Part):fG:=fG.mk (IntKind.i64.wrap (s+y.Frame)) (IntKind.i64.wrap (y.Word+IntKind.i64.wrap (t*p.Step))) y.Low y.Bits
def bM (p:Param)(s t:Int):List fG:=p.Parts.map (wM p s t)
def aV (p:Param)(a s:Int)(base n:Nat):List Cell:=(List.range n).map λ(t:Nat)=>Cell.mk a ((base+t:Nat):Int) s (bM p s t)
def cellsS (p:Param)(a:Int)(l:List Int):List Cell:=l.foldl (λcs s=>cs++aV p a s cs.length p.Times.toNat) []
def gV (p:Param)(a:Int):List Cell:=cellsS p a (aC p)
theorem stL_len (p:Param):(stL p).length=(16/p.Every).toNat:=by unfold stL;rw [List.length_map,List.length_range]
theorem aVa {p:Param}{i:Nat}{s:Int}(h:(stL p)[i]? =some s):s=p.First+i*p.Every:=by
 unfold stL at h;rw [List.getElem?_map]at h
 cases hr:(List.range (16/p.Every).toNat)[i]? with
 |none=>rw [hr]at h;cases h
 |some _=>
  rw [hr]at h;have:=(gS.1 hr).2;rw [List.getElem_range]at this;subst this;simpa using h.symm
theorem wZ {p:Param} (a:aI p):(stL p).length<=16/\(∀i<(stL p).length,p.First+(i:Int)*p.Every<16)/\ ¬(p.First+((stL p).length:Int)*p.Every<16):=by
 rw [stL_len];have b:=a.f0;have h1:=a.f1;rcases a.ev with e|e|e|e|e<;>rw [e]at h1⊢
 ·refine⟨by decide,λi hi=>?_,?_⟩
  ·have:i<16:=hi;omega
  ·show¬(p.First+((16:Nat):Int)*1<16);omega
 ·refine⟨by decide,λi hi=>?_,?_⟩
  ·have:i<8:=hi;omega
  ·show¬(p.First+((8:Nat):Int)*2<16);omega
 ·refine⟨by decide,λi hi=>?_,?_⟩
  ·have:i<4:=hi;omega
  ·show¬(p.First+((4:Nat):Int)*4<16);omega
 ·refine⟨by decide,λi hi=>?_,?_⟩
  ·have:i<2:=hi;omega
  ·show¬(p.First+((2:Nat):Int)*8<16);omega
 ·refine⟨by decide,λi hi=>?_,?_⟩
  ·have:i<1:=hi;omega
  ·show¬(p.First+((1:Nat):Int)*16<16);omega
theorem aQs {p:Param}(a:aI p):1<=p.Every/\p.Every<=16:=by have:=a.ev;omega
theorem next_w {p:Param}(a:aI p){i:Nat}(hi:i<(stL p).length):IntKind.i64.wrap (p.First+(i:Int)*p.Every+p.Every)=p.First+((i+1:Nat):Int)*p.Every:=by
 have b:=(wZ a).2.1 i hi;have c:=aQs a;have:(0:Int)<=(i:Int)*p.Every:=Int.mul_nonneg (by omega) (by omega);have d:=a.f0;rw [Go.OB.wrap_i64 (by omega) (by omega)];have e:((i+1:Nat):Int)*p.Every=(i:Int)*p.Every+p.Every:=by rw [Int.natCast_add,Int.add_mul,Int.natCast_one,Int.one_mul]
 omega
theorem aSj {p:Param} (a:aI p) (e:p.Parts.length<=9223372036854775807):Fbk p=some (aC p):=by
 obtain⟨f1,f2,f3⟩:=wZ a;unfold Fbk Fix;rw [xE (r:=some (aC p)) (λi=>(((stL p).take i).filter (aDh p),p.First+(i:Int)*p.Every)) (stL p).length (by omega)]
 ·rfl
 ·show([],p.First)=([],p.First+((0:Nat):Int)*p.Every);rw [Int.natCast_zero,Int.zero_mul,Int.add_zero]
 ·intro k i hi;have b:(stL p)[i]? =some (stL p)[i]:=gE hi;have c:=aVa b;simp only [zK];rw [dT (f2 i hi),zV,contP_eq _ _ e,zC,next_w a hi,cZ b,List.filter_append];have f:aDh p (stL p)[i]= !(p.Parts.any λy=>decide (16<=IntKind.i64.wrap (p.First+(i:Int)*p.Every+y.Frame))):=by rw [c];rfl
  rw [<-f]
  cases h:aDh p (stL p)[i]with
  |false=>
   rw [zT,zC,List.filter_cons_of_neg (by rw [h];decide),List.filter_nil,List.append_nil]
  |true=>
   have d:(((stL p).take i).filter (aDh p)).length<=16:=Nat.le_trans (List.length_filter_le _ _) (by rw [List.length_take];omega);rw [zV,kS (by rw [List.length_singleton];omega) (by decide),zC,zC,List.filter_cons_of_pos h,List.filter_nil,<-c]
 ·intro k;simp only [zK];rw [qD f3,zT,List.take_length];rfl
theorem aTr (p:Param)(s t:Int){i:Nat}{y:Part}(h:p.Parts[i]? =some y):(p.Parts.take (i+1)).map (wM p s t)=(p.Parts.take i).map (wM p s t)++[wM p s t y]:=by
 rw [cZ h,List.map_append,List.map_singleton]
theorem aTm (p:Param)(a s:Int)(b n:Nat):aV p a s b (n+1)=aV p a s b n++[Cell.mk a ((b+n:Nat):Int) s (bM p s n)]:=by
 unfold aV;rw [List.range_succ,List.map_append,List.map_singleton]
theorem mV (p:Param)(a s:Int)(b n:Nat):(aV p a s b n).length=n:=by unfold aV;rw [List.length_map,List.length_range]
theorem aHs (p:Param)(a:Int)(l:List Int)(s:Int):cellsS p a (l++[s])=cellsS p a l++aV p a s (cellsS p a l).length p.Times.toNat:=by
 unfold cellsS;rw [List.foldl_append,List.foldl_cons,List.foldl_nil]
theorem aAz (p:Param)(a:Int)(l:List Int):(cellsS p a l).length=l.length*p.Times.toNat:=by
 have: ∀(l:List Int) (cs:List Cell),(l.foldl (λcs s=>cs++aV p a s cs.length p.Times.toNat) cs).length=cs.length+l.length*p.Times.toNat:=by
  intro l
  induction l with
  |nil=>intro cs;simp
  |cons s l b=>
   intro cs;rw [List.foldl_cons,b,List.length_append,mV,List.length_cons,Nat.add_mul,Nat.one_mul];omega
 have:=this l [];simpa [cellsS]using this
theorem aGy {p:Param}(a:aI p)(b:Int)(l:List Int)(h:l.length<=16):(cellsS p b l).length<=912:=by
 rw [aAz];have:=a.t2;have:=Nat.mul_le_mul h (by omega:p.Times.toNat<=57);omega
theorem aNd {p:Param}(a:aI p):(aC p).length<=16:=by
 unfold aC;exact Nat.le_trans (List.length_filter_le _ _) (wZ a).1
theorem times_st {p:Param} (f:qX p) (d:aI p) (a s:Int) (cs:List Cell) (g:cs.length<=912):Ff0 a p s (cs,0)=some (cs++aV p a s cs.length p.Times.toNat):=by
 have t1:=d.t1;have t2:=d.t2;have h:=f.n8;unfold Ff0;rw [xE (r:=some (cs++aV p a s cs.length p.Times.toNat)) (λi=>(cs++aV p a s cs.length i,(i:Int))) p.Times.toNat (by omega)]
 ·show(cs,(0:Int))=(cs++[],((0:Nat):Int));rw [List.append_nil];rfl
 ·intro k i _;simp only [zK];rw [dT (by omega:(i:Int)<p.Times),zV];have b:Fga p s (i:Int) (p.Parts.length:Int) (0,[])=some (bM p s i):=by
   unfold Fga;rw [xE (r:=some (bM p s i)) (λj=>((j:Int),(p.Parts.take j).map (wM p s i))) p.Parts.length (by omega)]
   ·rfl
   ·intro k j c;have e:p.Parts[j]? =some p.Parts[j]:=gE c;simp only [zK,yH c,zV,yU e,zC,Fgl];rw [kS (by rw [List.length_map,List.length_take,List.length_singleton];omega) (by decide),zC,fO c (by omega),aTr p s i e];rfl
   ·intro k;simp only [zK,yK,zT,List.take_length];rfl
  rw [b,zC,kS (by rw [List.length_append,mV,List.length_singleton];omega) (by decide),zC,zC,Go.OB.wrap_i64 (by omega) (by omega),aTm,List.length_append,mV,List.append_assoc];rfl
 ·intro k;simp only [zK];rw [qD (by omega),zT]
theorem aQo {p:Param} (c:qX p) (b:aI p) (a:Int):Fbc a p=some (gV p a):=by
 have e:=aNd b;unfold Fbc Fhs;rw [aSj b (by have:=c.n8;omega),zC,zK];rw [xE (r:=some (gV p a)) (λi=>(cellsS p a ((aC p).take i),(i:Int))) (aC p).length (by omega)];rfl;rfl;intro k i hi;have d:(aC p)[i]? =some (aC p)[i]:=gE hi;simp only [zK,yH hi,zV,yU d,zC];rw [times_st c b a _ _ (aGy b a _ (by rw [List.length_take];omega)),zC,fO hi (by omega),cZ d,aHs];intro k;simp only [zK,yK,zT,List.take_length];rfl
theorem good_2 (p:Param)(a:p.Parts.length<=9223372036854775807)(s:Int):Fe7 p s (p.Parts.length:Int) (true,0)=some (aDh p s):=by
 unfold Fe7;rw [aOh p.Parts (λb (y:Part)=>b&&decide (IntKind.i64.wrap (s+y.Frame)<16)) (λb=>some b) true a (λk _ b y h1 d=>by simp only [zK,yH d,zV,yU h1,zC,fO d a,bZ]) (λk b=>by simp only [zK,yK,zT])]
 congr 1
 have: ∀(l:List Part) (b:Bool),l.foldl (λb (y:Part)=>b&&decide (IntKind.i64.wrap (s+y.Frame)<16)) b=(b&& !(l.any λy=>decide (16<=IntKind.i64.wrap (s+y.Frame)))):=by
  intro l
  induction l with
  |nil=>intro b;simp
  |cons y l e=>
   intro b;rw [List.foldl_cons,e,List.any_cons];have:decide (IntKind.i64.wrap (s+y.Frame)<16)= !decide (16<=IntKind.i64.wrap (s+y.Frame)):=by
    by_cases c:16<=IntKind.i64.wrap (s+y.Frame)
    ·rw [dT c];exact qD (by omega)
    ·rw [qD c];exact dT (by omega)
   rw [this,Bool.not_or,Bool.and_assoc]
 rw [this];rfl
theorem times_2 {p:Param} (f:qX p) (d:aI p) (a s:Int) (cs:List Cell) (g:cs.length<=912):Fbn p a s true (cs,0)=some (cs++aV p a s cs.length p.Times.toNat):=by
 have t1:=d.t1;have t2:=d.t2;have h:=f.n8;unfold Fbn;rw [xE (r:=some (cs++aV p a s cs.length p.Times.toNat)) (λi=>(cs++aV p a s cs.length i,(i:Int))) p.Times.toNat (by omega)]
 ·show(cs,(0:Int))=(cs++[],((0:Nat):Int));rw [List.append_nil];rfl
 ·intro k i _;simp only [zK];rw [dT (by omega:(i:Int)<p.Times),zV,zC,zV];have b:Ffb p s (i:Int) (p.Parts.length:Int) (0,[])=some (bM p s i):=by
   unfold Ffb;rw [xE (r:=some (bM p s i)) (λj=>((j:Int),(p.Parts.take j).map (wM p s i))) p.Parts.length (by omega)]
   ·rfl
   ·intro k j c;have e:p.Parts[j]? =some p.Parts[j]:=gE c;simp only [zK,yH c,zV,yU e,zC];rw [kS (by rw [List.length_map,List.length_take,List.length_singleton];omega) (by decide),zC,fO c (by omega),aTr p s i e];rfl
   ·intro k;simp only [zK,yK,zT,List.take_length];rfl
  rw [b,zC,kS (by rw [List.length_append,mV,List.length_singleton];omega) (by decide),zC,zC,Go.OB.wrap_i64 (by omega) (by omega),aTm,List.length_append,mV,List.append_assoc];rfl
 ·intro k;simp only [zK];rw [qD (by omega),zT,zC,zT]
theorem none_2 {p:Param}(a:aI p)(b s:Int)(cs:List Cell):Fbn p b s false (cs,0)=some cs:=by
 unfold Fbn;rw [xE (r:=some cs) (λ_=>(cs,(0:Int))) 0 (by omega) rfl (λk _ _=>by omega)];intro k;simp only [zK];rw [dT (by have:=a.t1;omega:(0:Int)<p.Times),zV,zC,zT]
theorem aIy {p:Param} (d:qX p) (b:aI p) (a:Int):Faw p a=some (gV p a):=by
 obtain⟨f1,f2,f3⟩:=wZ b;have g:=d.n8;unfold Faw Fiu;rw [xE (r:=some (gV p a)) (λi=>(cellsS p a (((stL p).take i).filter (aDh p)),p.First+(i:Int)*p.Every)) (stL p).length (by omega)]
 ·rfl
 ·show([],p.First)=([],p.First+((0:Nat):Int)*p.Every);rw [Int.natCast_zero,Int.zero_mul,Int.add_zero]
 ·intro k i hi;have e:(stL p)[i]? =some (stL p)[i]:=gE hi;have f:=aVa e;simp only [zK];rw [dT (f2 i hi),zV,good_2 p (by omega),zC,next_w b hi,cZ e,List.filter_append];rw [<-f]
  cases h:aDh p (stL p)[i]with
  |false=>
   rw [none_2 b,zC,List.filter_cons_of_neg (by rw [h];decide),List.filter_nil,List.append_nil]
  |true=>
   have c:(((stL p).take i).filter (aDh p)).length<=16:=Nat.le_trans (List.length_filter_le _ _) (by rw [List.length_take];omega);rw [times_2 d b a _ _ (aGy b a _ c),zC,List.filter_cons_of_pos h,List.filter_nil,aHs]
 ·intro k;simp only [zK];rw [qD f3,zT,List.take_length];rfl
theorem aSc {b c:Type} [DecidableEq b] (k a:b) (v:c): ∀l:List (b×c),aDg (kF l k v) a=(decide (k=a)||aDg l a)
 | []=>by rw [kF];unfold aDg;rw [List.any_cons,List.any_nil]
 |p::l=>by
  have d:=aSc k a v l;rw [kF];unfold aDg at d⊢
  by_cases h:p.1=k
  ·rw [if_pos h,List.any_cons,List.any_cons,h]
   cases decide (k=a)<;>simp
  ·rw [if_neg h,List.any_cons,List.any_cons,d]
   cases decide (p.1=a)<;>cases decide (k=a)<;>rfl
theorem aFx {c d:Type} [DecidableEq c] (k b:c) (v z:d): ∀l:List (c×d),kT (kF l k v) b z=if k=b then v else kT l b z
 | []=>by
  rw [kF];unfold kT
  by_cases h:k=b
  ·rw [List.find?_cons_of_pos (by simpa using h),if_pos h]
  ·rw [List.find?_cons_of_neg (by simpa using h),if_neg h]
 |p::l=>by
  have f:=aFx k b v z l;rw [kF];unfold kT at f⊢
  by_cases h:p.1=k
  ·rw [if_pos h]
   by_cases a:k=b
   ·rw [List.find?_cons_of_pos (by simpa using a),if_pos a]
   ·rw [List.find?_cons_of_neg (by simpa using a),if_neg a,List.find?_cons_of_neg (by rw [h];simpa using a)]
  ·rw [if_neg h]
   by_cases a:p.1=b
   ·rw [List.find?_cons_of_pos (by simpa using a),List.find?_cons_of_pos (by simpa using a),if_neg (by rw [<-a];exact λe=>h e.symm)]
   ·rw [List.find?_cons_of_neg (by simpa using a),List.find?_cons_of_neg (by simpa using a)];exact f
theorem aAf {b a σ:Type}{body:(Int×σ->Option a)->Int×σ->Option a}(l:List b)(f:Nat->b->σ->σ ⊕ Option a)(fin:σ->Option a)(s:σ)(c:l.length<=9223372036854775807)
  (h: ∀k (i:Nat) s x,l[i]? =some x->i<l.length->body k ((i:Int),s)=match f i x s with | .inl s'=>k (((i+1:Nat):Int),s')| .inr r=>r)(d: ∀k s,body k ((l.length:Int),s)=fin s):fA body (0,s)=kH f fin l 0 s:=
 pU (λ(i:Nat) (s:σ)=>((i:Int),s)) l f fin c (λk i s x h1=>h k i s x h1 (gS.1 h1).1) d s
theorem aNi {b a σ:Type}{body:(σ×Int->Option a)->σ×Int->Option a}(l:List b)(f:Nat->b->σ->σ ⊕ Option a)(fin:σ->Option a)(s:σ)(c:l.length<=9223372036854775807)
  (h: ∀k (i:Nat) s x,l[i]? =some x->i<l.length->body k (s,(i:Int))=match f i x s with | .inl s'=>k (s',((i+1:Nat):Int))| .inr r=>r)(d: ∀k s,body k (s,(l.length:Int))=fin s):fA body (s,0)=kH f fin l 0 s:=
 pU (λ(i:Nat) (s:σ)=>(s,(i:Int))) l f fin c (λk i s x h1=>h k i s x h1 (gS.1 h1).1) d s
def aN (x:fG):List fB:=(List.range x.Bits.toNat).map λ(i:Nat)=>fB.mk x.Frame x.Word (x.Low+(i:Int))
def OkP (x:fG):Prop:=0<=x.Low/\x.Low<=10/\1<=x.Bits/\x.Bits<=11
theorem bitsAt_l {x:fG} (h:OkP x):Fde x=some (aN x):=by
 obtain⟨h1,_,_,_⟩:=h;unfold Fde Fj4;rw [xE (r:=some (aN x)) (λi=>((List.range i).map λ(i:Nat)=>fB.mk x.Frame x.Word (x.Low+(i:Int)),(i:Int))) x.Bits.toNat (by omega)];rfl;rfl;intro k i _;simp only [zK];rw [dT (by omega:(i:Int)<x.Bits),zV,Go.OB.wrap_i64 (by omega) (by omega),kS (by rw [List.length_map,List.length_range,List.length_singleton];omega) (by decide),zC,Go.OB.wrap_i64 (by omega) (by omega),List.range_succ,List.map_append,List.map_singleton];rfl;intro k;simp only [zK];rw [qD (by omega),zT];rfl
def tkP (o:Int):List fB->List (fB×Int)->Bool×List (fB×Int)
 | [],m=>(true,m)
 |b::l,m=>if aDg m b=true then(false,m)else tkP o l (kF m b o)
theorem aQh (o:Int): ∀(l l':List fB) (m:List (fB×Int)),tkP o (l++l') m=if (tkP o l m).1=true then tkP o l' (tkP o l m).2 else tkP o l m
 | [],l',m=>rfl
 |b::l,l',m=>by
  rw [List.cons_append,tkP,tkP]
  by_cases h:aDg m b=true
  ·rw [if_pos h,if_pos h];rfl
  ·rw [if_neg h,if_neg h];exact aQh o l l' _
theorem take_runP (o:Int)(l:List fB)(k:List (fB×Int)->Option (Bool×List (fB×Int)))(m:List (fB×Int))(a:l.length<=9223372036854775807):
  Fel o k l (l.length:Int) (0,m)=if (tkP o l m).1=true then k (tkP o l m).2 else some (tkP o l m):=by
 unfold Fel;rw [aAf l (λ_ b m=>if aDg m b=true then .inr (some (false,m))else .inl (kF m b o)) (λm=>k m) m a
  (λk i m b h1 c=>by
   simp only [zK,yH c,zV,yU h1,zC,fO c a]
   cases aDg m b<;>rfl)
  (λk m=>by simp only [zK,yK,zT])]
 have: ∀(l:List fB) (i:Nat) (m:List (fB×Int)),kH (λ_ b m=>if aDg m b=true then .inr (some (false,m))else .inl (kF m b o)) (λm=>k m) l i m=if (tkP o l m).1=true then k (tkP o l m).2 else some (tkP o l m):=by
  intro l
  induction l with
  |nil=>intro i m;rfl
  |cons b l d=>
   intro i m;rw [kH,tkP]
   cases h:aDg m b with
   |true=>rfl
   |false=>exact d (i+1) _
 exact this l 0 m
theorem take_l (o:Int)(l:List fG)(m:List (fB×Int))(a:l.length<=9223372036854775807)(d: ∀x∈l,OkP x):Fb6 m o l=some (tkP o (l.flatMap aN) m):=by
 unfold Fb6 Fhn;rw [yN,zK];rw [aAf l (λ_ x m=>if (tkP o (aN x) m).1=true then .inl (tkP o (aN x) m).2 else .inr (some (tkP o (aN x) m))) (λm=>some (true,m)) m a
  (λk i m x h1 b=>by
   have c:=d x (qS h1);simp only [zK,yN,yH b,zV,yU h1,zC,fO b a,bitsAt_l c];rw [take_runP o _ _ _ (by unfold aN;rw [List.length_map,List.length_range];have:=c.2.2.2;omega)]
   cases(tkP o (aN x) m).1<;>rfl)
  (λk m=>by simp only [zK,yK,zT])]
 have: ∀(l:List fG) (i:Nat) (m:List (fB×Int)),kH (λ_ x m=>if (tkP o (aN x) m).1=true then .inl (tkP o (aN x) m).2 else .inr (some (tkP o (aN x) m))) (λm=>some (true,m)) l i m=some (tkP o (l.flatMap aN) m):=by
  intro l
  induction l with
  |nil=>intro i m;rfl
  |cons x l e=>
   intro i m;rw [kH,List.flatMap_cons,aQh]
   by_cases h:(tkP o (aN x) m).1=true
   ·rw [if_pos h,if_pos h];exact e (i+1) _
   ·rw [if_neg h,if_neg h]
 exact this l 0 m
def aMu (b:fB):Arr 3 Int:=⟨[b.frame,b.word,b.bit],rfl⟩
def tkR:List fB->Bool×List (Arr 3 Int×Bool)->Bool×List (Arr 3 Int×Bool)
 | [],s=>s
 |b::l,s=>tkR l (s.1&& !kT s.2 (aMu b) false,kF s.2 (aMu b) true)
theorem aIm: ∀(l l':List fB) (s:Bool×List (Arr 3 Int×Bool)),tkR (l++l') s=tkR l' (tkR l s)
 | [],_,_=>rfl
 |b::l,l',s=>by rw [List.cons_append,tkR,tkR];exact aIm l l' _
theorem aJe: ∀(l:List fB) (b:Bool) (m:List (Arr 3 Int×Bool)),(tkR l (b,m)).1=(b&&(tkR l (true,m)).1)/\(tkR l (b,m)).2=(tkR l (true,m)).2
 | [],b,m=>by simp [tkR]
 |x::l,b,m=>by
  rw [tkR,tkR];have h1:=aJe l (b&& !kT m (aMu x) false) (kF m (aMu x) true);have a:=aJe l (true&& !kT m (aMu x) false) (kF m (aMu x) true);refine⟨?_,h1.2.trans a.2.symm⟩;rw [h1.1,a.1,Bool.true_and,Bool.and_assoc]
theorem take_2a {x:fG} (a:OkP x) (b:Bool) (m:List (Arr 3 Int×Bool)):Ff5 x (b,x.Low,m)=some (tkR (aN x) (b,m)):=by
 obtain⟨h1,_,_,_⟩:=a;unfold Ff5;have e:aN x=(List.range x.Bits.toNat).map λ(i:Nat)=>fB.mk x.Frame x.Word (x.Low+(i:Int)):=rfl;rw [xE (r:=some (tkR (aN x) (b,m))) (λi=>((tkR ((List.range i).map λ(i:Nat)=>fB.mk x.Frame x.Word (x.Low+(i:Int))) (b,m)).1,x.Low+(i:Int),(tkR ((List.range i).map λ(i:Nat)=>fB.mk x.Frame x.Word (x.Low+(i:Int))) (b,m)).2)) x.Bits.toNat (by omega)];show(b,x.Low,m)=(b,x.Low+((0:Nat):Int),m);rw [Int.natCast_zero,Int.add_zero];intro k i _;simp only [zK];rw [Go.OB.wrap_i64 (by omega: -9223372036854775808<=x.Low+x.Bits) (by omega),dT (by omega:x.Low+(i:Int)<x.Low+x.Bits),zV,bZ,zC,Go.OB.wrap_i64 (by omega) (by omega),List.range_succ,List.map_append,List.map_singleton,aIm];have:x.Low+(i:Int)+1=x.Low+((i+1:Nat):Int):=by omega
 rw [this];rfl;intro k;simp only [zK];rw [Go.OB.wrap_i64 (by omega: -9223372036854775808<=x.Low+x.Bits) (by omega),qD (by omega: ¬x.Low+(x.Bits.toNat:Int)<x.Low+x.Bits),zT];rfl
theorem take_2 (l:List fG) (m:List (Arr 3 Int×Bool)) (a:l.length<=9223372036854775807) (c: ∀x∈l,OkP x):Fea m l=some (tkR (l.flatMap aN) (true,m)):=by
 unfold Fea Fhx;rw [zK];rw [xE (r:=some (tkR (l.flatMap aN) (true,m))) (λi=>((tkR ((l.take i).flatMap aN) (true,m)).1,(i:Int),(tkR ((l.take i).flatMap aN) (true,m)).2)) l.length a];rfl;rfl;intro k i hi;have b:l[i]? =some l[i]:=gE hi;simp only [zK,yH hi,zV,yU b,zC];rw [take_2a (c _ (List.getElem_mem hi)),zC,fO hi a,cZ b,List.flatMap_append,List.flatMap_singleton,aIm];intro k;simp only [zK,yK,zT,List.take_length]
theorem aOg (l:List Cell) (m:List (Arr 3 Int×Bool)) (a:l.length<=9223372036854775807) (e: ∀c∈l,c.Places.length<=9223372036854775807/\ ∀x∈c.Places,OkP x):Fb3 m l=some (tkR (l.flatMap λc=>c.Places.flatMap aN) (true,m)):=by
 unfold Fb3 Fh7;rw [zK];rw [xE (r:=some (tkR (l.flatMap λc=>c.Places.flatMap aN) (true,m))) (λi=>((tkR ((l.take i).flatMap λc=>c.Places.flatMap aN) (true,m)).1,(i:Int),(tkR ((l.take i).flatMap λc=>c.Places.flatMap aN) (true,m)).2)) l.length a];rfl;rfl;intro k i hi;have b:l[i]? =some l[i]:=gE hi;have d:=e _ (List.getElem_mem hi);simp only [zK,yH hi,zV,yU b,zC];rw [take_2 _ _ d.1 d.2,zC,fO hi a,cZ b,List.flatMap_append,List.flatMap_singleton,aIm];generalize tkR ((l.take i).flatMap λc=>c.Places.flatMap aN) (true,m)=s;have:=aJe (l[i].Places.flatMap aN) s.1 s.2;have f:tkR (l[i].Places.flatMap aN) s=((s.1&&(tkR (l[i].Places.flatMap aN) (true,s.2)).1),(tkR (l[i].Places.flatMap aN) (true,s.2)).2):=Prod.ext this.1 this.2;rw [f];generalize tkR (l[i].Places.flatMap aN) (true,s.2)=q;obtain⟨g,_⟩:=q;obtain⟨s1,_⟩:=s;cases g<;>cases s1<;>rfl;intro k;simp only [zK,yK,zT,List.take_length]
def relB (m:List (fB×Int))(m':List (Arr 3 Int×Bool)):Prop:= ∀b,aDg m b=kT m' (aMu b) false
theorem aRn {a b:fB}:aMu a=aMu b↔a=b:=by
 constructor
 ·intro h;have:=congrArg Arr.l h;simp only [aMu,List.cons.injEq,and_true]at this
  cases a;cases b
  simp_all
 ·intro h;rw [h]
theorem aVv (o:Int): ∀(l:List fB) (m:List (fB×Int)) (m':List (Arr 3 Int×Bool)),relB m m'->(tkP o l m).1=(tkR l (true,m')).1/\((tkP o l m).1=true->relB (tkP o l m).2 (tkR l (true,m')).2)
 | [],m,m',h=>⟨rfl,λ_=>h⟩
 |b::l,m,m',h=>by
  rw [tkP,tkR,<-h b]
  cases hb:aDg m b with
  |true=>
   rw [if_pos rfl];refine⟨?_,λc=>by cases c⟩;rw [(aJe l _ _).1];rfl
  |false=>
   rw [if_neg (by decide)];refine aVv o l _ _ λc=>?_
   rw [aSc,aFx,h c]
   by_cases e:b=c
   ·rw [if_pos (aRn.2 e),dT e,Bool.true_or]
   ·rw [if_neg (λq=>e (aRn.1 q)),qD e,Bool.false_or]
structure SzP (p:Param):Prop where
 nm:p.Name.length<=9223372036854775807
 pl:p.Parts.length<=9223372036854775807
 nl:p.Names.length<=9223372036854775807
 ns: ∀s∈p.Names,s.length<=9223372036854775807
def bP (c:Cell):List fB:=c.Places.flatMap aN
def pG (p:Param):Int:=if vX p.Name=false then 8 else if bV p.Kind 1 6=true then 7 else if pfM p≠0 then pfM p else if tfM p≠0 then tfM p else if kfM p≠0 then kfM p else if (tkP 0 ((gV p 0).flatMap bP) []).1=false then 5 else if (gV p 0).length=0 then 13 else 0
structure tX (p:Param):Prop where
 nm:vX p.Name=true
 kd:bV p.Kind 1 6=false
 pt:qX p
 tm:aI p
 pf:pfM p=0
 tf:tfM p=0
 kf:kfM p=0
 cl:(gV p 0).length≠0
 ck:pG p=0
theorem tf_ok {p:Param} (h:tfM p=0):aI p:=by
 unfold tfM at h;split at h;cases h;rename_i h1;exact aRa (by simpa using h1)
theorem jE {p:Param}(h:pG p=0):tX p:=by
 have a:=h;unfold pG at h;split at h;cases h;rename_i h1;split at h;cases h;rename_i f;split at h;rename_i c;exact absurd h c;rename_i b;split at h;rename_i c;exact absurd h c;rename_i d;split at h;rename_i c;exact absurd h c;rename_i e;split at h;cases h;split at h;cases h;rename_i g;have b:pfM p=0:=by omega
 have d:tfM p=0:=by omega
 have e:kfM p=0:=by omega
 exact⟨by simpa using h1,by simpa using f,aOk b,tf_ok d,b,d,e,g,a⟩
theorem aVr {p:Param}{a s:Int}{b n:Nat}{c:Cell}(h:c∈aV p a s b n): ∃t,t<n/\c=Cell.mk a ((b+t:Nat):Int) s (bM p s t):=by
 unfold aV at h;obtain⟨t,d,rfl⟩:=List.mem_map.1 h;exact⟨t,List.mem_range.1 d,rfl⟩
theorem aDx {p:Param}{a:Int}{l:List Int}{c:Cell} (h:c∈cellsS p a l): ∃s t i,s∈l/\t<p.Times.toNat/\c=Cell.mk a i s (bM p s (t:Nat)):=by
 have: ∀(l:List Int) (cs:List Cell),c∈l.foldl (λcs s=>cs++aV p a s cs.length p.Times.toNat) cs->c∈cs\/ ∃s t i,s∈l/\t<p.Times.toNat/\c=Cell.mk a i s (bM p s (t:Nat)):=by
  intro l
  induction l with
  |nil=>intro cs h;exact .inl h
  |cons s l b=>
   intro cs h;rw [List.foldl_cons]at h;rcases b _ h with h|⟨d,t,i,h1,f,g⟩
   ·rcases mA.1 h with h|h
    ·exact .inl h
    ·obtain⟨t,j,e⟩:=aVr h;exact .inr ⟨s,t,_,List.mem_cons_self ..,j,e⟩
   ·exact .inr ⟨d,t,i,List.mem_cons_of_mem _ h1,f,g⟩
 rcases this l [] h with h|h
 ·cases h
 ·exact h
theorem places_ok {p:Param}(a:qX p){s t:Int}{x:fG}(h:x∈bM p s t):OkP x:=by
 unfold bM at h;obtain⟨y,b,rfl⟩:=List.mem_map.1 h;have:=aLv (a.all y b);unfold OkP wM;simp only;omega
theorem aJa {p:Param}(a:qX p){b:Int}{c:Cell}(h:c∈gV p b):c.Places.length<=9223372036854775807/\ ∀x∈c.Places,OkP x:=by
 obtain⟨s,t,_,h1,_,rfl⟩:=aDx h;refine⟨?_,λx d=>places_ok a d⟩;show(bM p s t).length<=_;unfold bM;rw [List.length_map];have:=a.n8;omega
theorem bT {p:Param}(a:aI p)(b:Int):(gV p b).length<=912:=aGy a b _ (aNd a)
theorem vO (p:Param)(a:Int):(gV p a).flatMap bP=(gV p 0).flatMap bP/\(gV p a).length=(gV p 0).length:=by
 refine⟨?_,by unfold gV;rw [aAz,aAz]⟩;have: ∀(l:List Int) (cs cs':List Cell),cs.flatMap bP=cs'.flatMap bP->(l.foldl (λcs s=>cs++aV p a s cs.length p.Times.toNat) cs).flatMap bP=(l.foldl (λcs s=>cs++aV p 0 s cs.length p.Times.toNat) cs').flatMap bP:=by
  intro l
  induction l with
  |nil=>intro cs cs' h;exact h
  |cons s l b=>
   intro cs cs' h;rw [List.foldl_cons,List.foldl_cons];refine b _ _ ?_;rw [List.flatMap_append,List.flatMap_append,h]
   congr 1
   unfold aV;rw [List.flatMap_map,List.flatMap_map];rfl
 exact this (aC p) [] [] rfl
theorem aQb {a:Type}(o:Int)(r:Option a)(fin:List (fB×Int)->Option a): ∀(l:List Cell) (i:Nat) (m:List (fB×Int)),kH (λ_ c m=>if (tkP o (bP c) m).1=true then .inl (tkP o (bP c) m).2 else .inr r) fin l i m=if (tkP o (l.flatMap bP) m).1=true then fin (tkP o (l.flatMap bP) m).2 else r
 | [],i,m=>rfl
 |c::l,i,m=>by
  rw [kH,List.flatMap_cons,aQh]
  by_cases h:(tkP o (bP c) m).1=true
  ·rw [if_pos h,if_pos h];exact aQb o r fin l (i+1) _
  ·rw [if_neg h,if_neg h,if_neg h]
theorem par_l {p:Param} (e:SzP p):Fbu p=some (pG p):=by
 unfold Fbu pG;simp only [aSb,lwi,zC,zK,yN,nwi,pf_l p e.pl]
 cases vX p.Name with
 |false=>rfl
 |true=>
  simp only [Bool.not_true,zT,Bool.true_eq_false,if_false];show gJ (bV p.Kind 1 6) _ _=_
  cases bV p.Kind 1 6 with
  |true=>rfl
  |false=>
   simp only [zT,Bool.false_eq_true,if_false,xA]
   by_cases d:pfM p=0
   ·simp only [d,if_true,ne_eq,not_true,if_false]
    by_cases f:tfM p=0
    ·simp only [f,not_true,if_false];rw [kf_l p e.pl e.nl (aOk d),zC]
     by_cases g:kfM p=0
     ·simp only [g,not_true,if_false];have h:=aOk d;have j:=tf_ok f;have a:(gV p 0).length<=9223372036854775807:=Nat.le_trans (bT j 0) (by decide);rw [aQo h j,zC];unfold Fi2;rw [aAf (gV p 0) (λ_ c m=>if (tkP 0 (bP c) m).1=true then .inl (tkP 0 (bP c) m).2 else .inr (some 5)) (λ_=>if ((gV p 0).length:Int)=0 then some 13 else some 0) [] a
       (λk _ m c h1 l=>by
        have n:=aJa h (qS h1);simp only [zK,yH l,zV,yU h1,zC,fO l a,take_l 0 c.Places m n.1 n.2];show gJ (!(tkP 0 (bP c) m).1) _ (k (_,(tkP 0 (bP c) m).2))=_;rcases tkP 0 (bP c) m with ⟨b,_⟩
        cases b<;>rfl)
       (λk m=>by simp only [zK,yK,zT]),aQb]
      cases(tkP 0 ((gV p 0).flatMap bP) []).1 with
      |false=>rfl
      |true=>
       simp only [if_true,Bool.true_eq_false,if_false]
       by_cases c:(gV p 0).length=0
       ·rw [if_pos c,if_pos (by omega)]
       ·rw [if_neg c,if_neg (by omega)]
     ·simp only [g,not_false_eq_true,if_true]
    ·simp only [f,not_false_eq_true,if_true]
   ·simp only [d,if_false,ne_eq,not_false_eq_true,if_true]
theorem par_2 {p:Param} (a:SzP p):Fa4 p=some (pG p):=by
 unfold Fa4 pG;simp only [aUe p.Name a.nm,out2,zC,zK,pf_2 p a.pl]
 cases vX p.Name with
 |false=>rfl
 |true=>
  simp only [Bool.not_true,zT,Bool.true_eq_false,if_false];show gJ (bV p.Kind 1 6) _ _=_
  cases bV p.Kind 1 6 with
  |true=>rfl
  |false=>
   simp only [zT,Bool.false_eq_true,if_false,xA]
   by_cases d:pfM p=0
   ·simp only [d,ne_eq,not_true,if_false];rw [tf_2 p a.pl (aOk d).all,zC]
    by_cases f:tfM p=0
    ·simp only [f,not_true,if_false];rw [kf_2 p a.pl a.nl a.ns (aOk d),zC]
     by_cases h:kfM p=0
     ·simp only [h,not_true,if_false];have i:=aOk d;have j:=tf_ok f;have g:(gV p 0).length<=9223372036854775807:=Nat.le_trans (bT j 0) (by decide);rw [aIy i j,zC,aOg _ _ g (λc k=>aJa i k),zC];have l:=aVv 0 ((gV p 0).flatMap bP) [] [] (λ_=>rfl);have e:(tkR ((gV p 0).flatMap λc=>c.Places.flatMap aN) (true,[])).1=(tkP 0 ((gV p 0).flatMap bP) []).1:=l.1.symm;simp only [e]
      cases(tkP 0 ((gV p 0).flatMap bP) []).1 with
      |false=>rfl
      |true=>
       simp only [Bool.not_true,zT,Bool.true_eq_false,if_false]
       by_cases c:(gV p 0).length=0
       ·rw [if_pos c,if_pos (by omega)]
       ·rw [if_neg c,if_neg (by omega)]
     ·simp only [h,not_false_eq_true,if_true]
    ·simp only [f,not_false_eq_true,if_true]
   ·simp only [d,ne_eq,not_false_eq_true,if_true]
structure SzM (m:Map):Prop where
 pl:m.Params.length<=9223372036854775807
 ps: ∀p∈m.Params,SzP p
theorem nN {b d:Type} (q:Nat->b->Option (Option d)): ∀(l:List b) (i:Nat),
  (∃j x v,l[j]? =some x/\q (i+j) x=some v/\ ∀fin,bW q fin l i=v)\/((∀j x,l[j]? =some x->q (i+j) x=none)/\ ∀fin,bW q fin l i=fin)
 | [],i=> .inr ⟨λj x h=>by simp at h,λ_=>rfl⟩
 |x::l,i=>by
  cases h:q i x with
  |some v=>exact .inl ⟨0,x,v,rfl,h,λfin=>by rw [bW,h]⟩
  |none=>
   rcases nN q l (i+1)with ⟨j,y,v,h1,c,e⟩|⟨h1,c⟩
   ·refine .inl ⟨j+1,y,v,by simpa using h1,by rwa [show i+(j+1)=i+1+j by omega],λfin=>?_⟩;rw [bW,h];exact e fin
   ·refine .inr ⟨λj y a=>?_,λfin=>?_⟩
    ·cases j with
     |zero=>simp at a;subst a;exact h
     |succ j=>have:=h1 j y (by simpa using a);rwa [show i+(j+1)=i+1+j by omega]
    ·rw [bW,h];exact c fin
def aOz (l:List Param):Nat->Param->Option (Option (Int×Int)):=λi x=>if pG x=0 then(if (l.take i).any (λy=>decide (y.Name=x.Name))=true then some (some ((i:Int),5))else none)else some (some ((i:Int),pG x))
def cntF:Nat->Param->Int->Int ⊕ Option (Int×Int):=λi x s=>if 4000<IntKind.i64.wrap (s+(gV x 0).length)then .inr (some ((i:Int),3))else .inl (IntKind.i64.wrap (s+(gV x 0).length))
def tkF:Nat->Param->List (fB×Int)->List (fB×Int) ⊕ Option (Int×Int):=λi x m=>if (tkP (i:Int) ((gV x 0).flatMap bP) m).1=true then .inl (tkP (i:Int) ((gV x 0).flatMap bP) m).2 else .inr (some ((i:Int),5))
def tkG:Nat->Param->List (Arr 3 Int×Bool)->List (Arr 3 Int×Bool) ⊕ Option (Int×Int):=λi x m=>if (tkR ((gV x 0).flatMap bP) (true,m)).1=true then .inl (tkR ((gV x 0).flatMap bP) (true,m)).2 else .inr (some ((i:Int),5))
theorem chkL1 (m:Map) (a:SzM m) (r:Option (Int×Int)):Fgb m (λ_=>r) (m.Params.length:Int) 0=bW (aOz m.Params) r m.Params 0:=by
 unfold Fgb;refine xY m.Params _ _ a.pl (λk i x h1 b=>?_) (λk=>by simp only [zK,yK,zT]);have d:=a.ps x (qS h1);simp only [zK,yH b,zV,yU h1,zC,fO b a.pl,par_l d,aDc m.Params (by omega:i<=m.Params.length)];rw [contM_eq _ _ (by rw [List.length_take];have:=a.pl;omega),zC,xA];unfold aOz;by_cases c:pG x=0;rw [if_neg (by simpa using c),if_pos c];cases((m.Params.take i).any λy=>decide (y.Name=x.Name))<;>rfl;rw [if_pos c,if_neg c]
theorem chkR1 (m:Map) (b:SzM m) (r:Option (Int×Int)):Fgf m (λ_=>r) (m.Params.length:Int) 0=bW (aOz m.Params) r m.Params 0:=by
 unfold Fgf;refine xY m.Params _ _ b.pl (λk i x h1 d=>?_) (λk=>by simp only [zK,yK,zT]);have e:=b.ps x (qS h1);simp only [zK,yN,yH d,zV,yU h1,zC,fO d b.pl,par_2 e,aDc m.Params (by omega:i<=m.Params.length)];have a:(m.Params.take i).length<=9223372036854775807:=by rw [List.length_take];have:=b.pl;omega
 unfold Fi0;rw [jS (m.Params.take i) (λy=>decide (y.Name=x.Name)) (some ((i:Int),5)) (k ((i+1:Nat):Int)) a (λf _ y g1 g2=>by simp only [zK,yH g2,zV,yU g1,zC,fO g2 a]) (λf=>by simp only [zK,yK,zT]),xA];unfold aOz;by_cases c:pG x=0;rw [if_neg (by simpa using c),if_pos c];cases((m.Params.take i).any λy=>decide (y.Name=x.Name))<;>rfl;rw [if_pos c,if_neg c]
theorem chkL2 (m:Map)(a:SzM m)(g: ∀p∈m.Params,tX p)(r:Option (Int×Int)):Fe9 m (λ_=>r) (m.Params.length:Int) (0,0)=kH cntF (λ_=>r) m.Params 0 0:=by
 unfold Fe9;refine aNi m.Params cntF (λ_=>r) 0 a.pl (λk _ s x h1 d=>?_) (λk s=>by simp only [zK,yK,zT]);have b:=g x (qS h1);have hm:=a.ps x (qS h1);have f:=bT b.tm 0;have h:(gV x 0).length=(aC x).length*x.Times.toNat:=aAz ..;have j:=b.tm.t1;have e:((aC x).length:Int)*x.Times=((gV x 0).length:Int):=by
  rw [h,Int.natCast_mul]
  congr 1
  omega
 simp only [zK,yH d,zV,yU h1,zC,fO d a.pl,aSj b.tm hm.pl,e,Go.OB.wrap_i64 (by omega: -9223372036854775808<=((gV x 0).length:Int)) (by omega),xA];unfold cntF
 by_cases c:4000<IntKind.i64.wrap (s+(gV x 0).length)
 ·rw [if_pos c,if_pos c]
 ·rw [if_neg c,if_neg c]
theorem chkR3 (m:Map)(a:SzM m)(e: ∀p∈m.Params,tX p)(r:Option (Int×Int)):Fg2 m (λ_=>r) (m.Params.length:Int) (0,0)=kH cntF (λ_=>r) m.Params 0 0:=by
 unfold Fg2;refine aNi m.Params cntF (λ_=>r) 0 a.pl (λk i s x h1 b=>?_) (λk s=>by simp only [zK,yK,zT]);have d:=e x (qS h1);simp only [zK,yH b,zV,yU h1,zC,fO b a.pl,aIy d.pt d.tm,(vO x (i:Int)).2,xA];unfold cntF;by_cases c:4000<IntKind.i64.wrap (s+(gV x 0).length);rw [if_pos c,if_pos c];rw [if_neg c,if_neg c]
theorem chkL3 (m:Map)(e:SzM m)(h: ∀p∈m.Params,tX p)(r:Option (Int×Int)):Fff m (λ_=>r) (m.Params.length:Int) (0,[])=kH tkF (λ_=>r) m.Params 0 []:=by
 unfold Fff;refine aAf m.Params tkF (λ_=>r) [] e.pl (λk i s x h1 f=>?_) (λk s=>by simp only [zK,yK,zT]);have d:=h x (qS h1);have a:(gV x (i:Int)).length<=9223372036854775807:=Nat.le_trans (bT d.tm _) (by decide);simp only [zK,yN,yH f,zV,yU h1,zC,fO f e.pl,aQo d.pt d.tm];unfold Fjb;rw [aAf (gV x (i:Int)) (λ_ c m=>if (tkP (i:Int) (bP c) m).1=true then .inl (tkP (i:Int) (bP c) m).2 else .inr (some ((i:Int),5))) (λm=>k (((i+1:Nat):Int),m)) s a
  (λk _ m c g1 g2=>by
   have g:=aJa d.pt (qS g1);simp only [zK,yH g2,zV,yU g1,zC,fO g2 a,take_l _ c.Places m g.1 g.2];show gJ (!(tkP (i:Int) (bP c) m).1) _ (k (_,(tkP (i:Int) (bP c) m).2))=_;rcases tkP (i:Int) (bP c) m with ⟨b,_⟩
   cases b<;>rfl)
  (λk m=>by simp only [zK,yK,zT]),aQb,(vO x (i:Int)).1]
 unfold tkF
 by_cases c:(tkP (i:Int) ((gV x 0).flatMap bP) s).1=true
 ·rw [if_pos c,if_pos c]
 ·rw [if_neg c,if_neg c]
theorem chkR4 (m:Map)(f:SzM m)(h: ∀p∈m.Params,tX p)(r:Option (Int×Int)):Ffr m (λ_=>r) (m.Params.length:Int) (0,[])=kH tkG (λ_=>r) m.Params 0 []:=by
 unfold Ffr;refine aAf m.Params tkG (λ_=>r) [] f.pl (λk i s x h1 g=>?_) (λk s=>by simp only [zK,yK,zT]);have a:=h x (qS h1);have d:(gV x (i:Int)).length<=9223372036854775807:=Nat.le_trans (bT a.tm _) (by decide);simp only [zK,yH g,zV,yU h1,zC,fO g f.pl,aIy a.pt a.tm,aOg _ _ d (λc j=>aJa a.pt j)];have e:((gV x (i:Int)).flatMap λc=>c.Places.flatMap aN)=(gV x 0).flatMap bP:=(vO x (i:Int)).1;rw [e];unfold tkG;rcases tkR ((gV x 0).flatMap bP) (true,s)with ⟨b,_⟩
 cases b<;>rfl
theorem tk_two: ∀(l:List Param) (i:Nat) (m:List (fB×Int)) (m':List (Arr 3 Int×Bool)),relB m m'->
  (∃v:Int×Int,v.2≠0/\0<=v.1/\ ∀r a,kH tkF (λ_=>r) l i m=some v/\kH tkG (λ_=>a) l i m'=some v)\/ ∀r a,kH tkF (λ_=>r) l i m=r/\kH tkG (λ_=>a) l i m'=a
 | [],i,m,m',_=> .inr λr a=>⟨rfl,rfl⟩
 |x::l,i,m,m',h=>by
  have c:=aVv (i:Int) ((gV x 0).flatMap bP) m m' h
  cases hb:(tkP (i:Int) ((gV x 0).flatMap bP) m).1 with
  |false=>
   refine .inl ⟨((i:Int),5),(by show(5:Int)≠0;decide),by omega,λr a=>⟨?_,?_⟩⟩
   ·rw [kH,tkF,if_neg (by rw [hb];decide)]
   ·rw [kH,tkG,if_neg (by rw [<-c.1,hb];decide)]
  |true=>
   rcases tk_two l (i+1) _ _ (c.2 hb)with ⟨v,h1,d,b⟩|b
   ·refine .inl ⟨v,h1,d,λr a=>⟨?_,?_⟩⟩
    ·rw [kH,tkF,if_pos hb];exact(b r a).1
    ·rw [kH,tkG,if_pos (by rw [<-c.1,hb])];exact(b r a).2
   ·refine .inr λr a=>⟨?_,?_⟩
    ·rw [kH,tkF,if_pos hb];exact(b r a).1
    ·rw [kH,tkG,if_pos (by rw [<-c.1,hb])];exact(b r a).2
theorem aZc: ∀(l:List Param) (i:Nat) (s:Int),0<=s->s<=4000->(∀p∈l,(gV p 0).length<=912)->
  (∃v:Int×Int,v.2≠0/\0<=v.1/\ ∀r,kH cntF (λ_=>r) l i s=some v)\/((∀r,kH cntF (λ_=>r) l i s=r)/\s+((l.map λp=>(gV p 0).length).sum:Nat)<=4000)
 | [],i,s,_,h,_=> .inr ⟨λr=>rfl,by simpa using h⟩
 |x::l,i,s,g,h,d=>by
  have j:=d x (List.mem_cons_self ..);have a:IntKind.i64.wrap (s+(gV x 0).length)=s+(gV x 0).length:=Go.OB.wrap_i64 (by omega) (by omega)
  by_cases c:4000<s+(gV x 0).length
  ·refine .inl ⟨((i:Int),3),(by show(3:Int)≠0;decide),by omega,λr=>?_⟩;rw [kH,cntF,a,if_pos c]
  ·rcases aZc l (i+1) (s+(gV x 0).length) (by omega) (by omega) (λp e=>d p (List.mem_cons_of_mem _ e))with ⟨v,h1,f,b⟩|⟨b,_⟩
   ·refine .inl ⟨v,h1,f,λr=>?_⟩;rw [kH,cntF,a,if_neg c];exact b r
   ·refine .inr ⟨λr=>?_,?_⟩
    ·rw [kH,cntF,a,if_neg c];exact b r
    ·rw [List.map_cons,List.sum_cons];omega
structure aXx (m:Map):Prop where
 n:m.Params.length<=200
 v0:0<=m.Version
 v1:m.Version<=2047
 all: ∀p∈m.Params,tX p
 names: ∀(j:Nat) (x:Param),m.Params[j]? =some x->(m.Params.take j).any (λy=>decide (y.Name=x.Name))=false
 cnt:(m.Params.map λp=>(gV p 0).length).sum<=4000
theorem aXq {m:Map} (d:SzM m): ∃v:Int×Int,Fat m=some v/\Fap m=some v/\(v.2=0->v.1=0/\aXx m):=by
 unfold Fat Fa1 Fap;simp only [lwi,out2,zC,zK,yN,nwi];show ∃v:Int×Int,(gB (gJ (bV m.Version 0 2047) _ _) _=_/\gJ (bV m.Version 0 2047) _ _=_/\_)
 cases hv:bV m.Version 0 2047 with
 |true=>exact⟨(0,9),rfl,rfl,λh=>by cases h⟩
 |false=>
  rw [zT,zT,xA,xA]
  by_cases c2:200<m.Params.length
  ·rw [if_pos (by omega),if_pos (by omega)];exact⟨(0,3),rfl,rfl,λh=>by cases h⟩
  rw [if_neg (by omega),if_neg (by omega),chkL1 m d,chkR1 m d];rcases nN (aOz m.Params) m.Params 0 with ⟨j,x,v,h1,e,f⟩|⟨h1,f⟩
  ·rw [f,f];unfold aOz at e;split at e
   ·split at e
    ·cases e
     refine⟨(((0+j:Nat):Int),5),?_,rfl,λh=>by cases h⟩;rw [zC,Int.max_eq_left (by omega)]
    ·cases e
   ·rename_i c
    cases e
    refine⟨(((0+j:Nat):Int),pG x),?_,rfl,λh=>absurd h c⟩;rw [zC,Int.max_eq_left (by omega)]
  rw [f,f];have g: ∀(j:Nat) (x:Param),m.Params[j]? =some x->pG x=0/\(m.Params.take j).any (λy=>decide (y.Name=x.Name))=false:=by
   intro j x i;have:=h1 j x i;unfold aOz at this;split at this
   ·rename_i c;rw [Nat.zero_add]at this;split at this
    ·cases this
    ·rename_i n;exact⟨c,by simpa using n⟩
   ·cases this
  have a: ∀p∈m.Params,tX p:=by
   intro p l;obtain⟨j,i,rfl⟩:=List.mem_iff_getElem.1 l;exact jE (g j _ (gE i)).1
  rw [chkL2 m d a,chkR3 m d a];rcases aZc m.Params 0 0 (by omega) (by omega) (λp l=>bT (a p l).tm 0)with ⟨v,g1,g2,g3⟩|⟨g3,g4⟩
  ·rw [g3,g3];refine⟨v,?_,rfl,λh=>absurd h g1⟩;rw [zC];show some (max v.1 0,v.2)=_;rw [Int.max_eq_left g2]
  rw [g3,g3,chkL3 m d a,chkR4 m d a];rcases tk_two m.Params 0 [] [] (λ_=>rfl)with ⟨v,g1,g2,g5⟩|g5
  ·rw [(g5 _ none).1,(g5 none _).2];refine⟨v,?_,rfl,λh=>absurd h g1⟩;rw [zC];show some (max v.1 0,v.2)=_;rw [Int.max_eq_left g2]
  ·rw [(g5 _ none).1,(g5 none _).2];have k:=aCg.1 hv;exact⟨(0,0),rfl,rfl,λ_=>⟨rfl,by omega,k.1,k.2,a,λj x i=>(g j x i).2,by omega⟩⟩
def kws:List Str:=[[112,104,97,115,101],[109,111,118,101],[114,117,108,101],[105,102],[111,114],[97,110,100],[116,114,117,101],[102,97,108,115,101],[115,116,101,97,100,121],[110,111,116],[102,111,114],[119,105,116,104,105,110],[99,111,117,110,116],[111,102],[114,105,115,101,115],[115,105,110,99,101]]
theorem ewithin (a b c:Int):Faj a b c=some (decide (b<=a)&&decide (a<=c)):=by
 unfold Faj;simp only [zK,bZ,zC]
def isW (s:Str):Bool:=decide (s∈kws)
theorem isWord_eq (s:Str):Fb8 s=some (isW s):=by
 unfold Fb8 isW kws;simp only [zK,aXv,zC,iteB_id,List.mem_cons,List.not_mem_nil,or_false,Bool.decide_or]
def nmB (c:Int):Bool:=(decide (97<=c)&&decide (c<=122))||(decide (48<=c)&&decide (c<=57))||decide (c=45)
theorem aRx (c:Int):Fca c=some (nmB c):=by
 unfold Fca nmB;simp only [zK];cases decide (97<=c)<;>cases decide (c<=122)<;>cases decide (48<=c)<;>cases decide (c<=57)<;>cases decide (c=45)<;>rfl
def aMj:Nat->UInt8->Bool:=λ_ c=> !nmB (c.toNat:Int)
theorem isName_L1 (s:Str) (a:okS s) (k:Unit->Option Bool):Ffa s k (s.length:Int) 0=if rH aMj s 0=true then some false else k ():=by
 unfold Ffa;rw [xY s (λi c=>if aMj i c=true then some (some false)else none) (k ()) a];exact uI aMj (some false) (k ()) s 0;intro b i c d hi;unfold aMj;simp only [zK];rw [yH hi,zV,aBz d,zC,aRx,zC];cases nmB (c.toNat:Int);rfl;simp only [Bool.not_true,zT];rw [fO hi a];rfl;intro b;simp only [zK];rw [yK];rfl
def aEy (s:Str):Bool:=match s with
 | []=>false
 |c::_=>decide (97<=(c.toNat:Int))&&decide ((c.toNat:Int)<=122)
def aTs (s:Str):Bool:=decide (s.length<=30)&&aEy s&& !isW s&& !rH aMj s 0
theorem isName_eq (s:Str)(a:okS s):Fak s=some (aTs s):=by
 unfold Fak aTs;simp only [zK,zC,ewithin,yN,isName_L1 s a,isWord_eq]
 cases s with
 |nil=>rfl
 |cons c l=>
  have b:byte' (c::l) 0=some (c.toNat:Int):=aBz (i:=0) rfl;have h1:decide ((1:Int)<=((c::l).length:Int))=true:=dT (by simp;omega);have d:decide (((c::l).length:Int)<=30)=decide ((c::l).length<=30):=decide_eq_decide.2 (by omega);have e:decide ((c.toNat:Int)<97)= !decide (97<=(c.toNat:Int)):=by rw [<-decide_not];exact decide_eq_decide.2 (by omega)
  have f:decide (122<(c.toNat:Int))= !decide ((c.toNat:Int)<=122):=by rw [<-decide_not];exact decide_eq_decide.2 (by omega)
  rw [b,h1,d];simp only [zC,Bool.true_and,e,f,aEy]
  cases decide ((c::l).length<=30)<;>cases decide (97<=(c.toNat:Int))<;>cases decide ((c.toNat:Int)<=122)<;>cases isW (c::l)<;>cases rH aMj (c::l) 0<;>rfl
theorem IsName_eq (s:Str)(a:okS s):Fd0 s=some (aTs s):=by
 unfold Fd0;rw [isName_eq s a];rfl
theorem aTi (s:Str):Fec s=some (isW s):=by
 unfold Fec Fgw;simp only [zK,zC,yN];change Fg9 s kws (λ_=>some false) 0=_;unfold Fg9;rw [xY kws (λ_ x=>if decide (x=s)=true then some (some true)else none) (some false) (by decide)]
 ·rw [uI (λ_ x=>decide (x=s))];have e:rH (λ_ x=>decide (x=s)) kws 0=isW s:=by
   rw [Bool.eq_iff_iff,aTk];unfold isW;simp only [decide_eq_true_eq];constructor
   ·rintro⟨j,x,h,rfl⟩;exact qS h
   ·intro h;obtain⟨j,a⟩:=List.getElem?_of_mem h;exact⟨j,s,a,rfl⟩
  rw [e];cases isW s<;>rfl
 ·intro b _ c d hi;simp only [zK];rw [yH hi,zV,yU d,zC]
  cases decide (c=s)
  ·simp only [zT];rw [fO hi (by decide)];rfl
  ·rfl
 ·intro b;simp only [zK];rw [yK];rfl
def badR:Nat->UInt8->Bool:=λi c=> !((decide (97<=(c.toNat:Int))&&decide ((c.toNat:Int)<=122))||(decide (0<(i:Int))&&((decide (48<=(c.toNat:Int))&&decide ((c.toNat:Int)<=57))||decide ((c.toNat:Int)=45))))
theorem aVi (s:Str) (a:okS s) (k:Unit->Option Bool):Fex s k 0=if rH badR s 0=true then some false else k ():=by
 unfold Fex;rw [xY s (λi c=>if badR i c=true then some (some false)else none) (k ()) a];exact uI badR (some false) (k ()) s 0;intro b i c d hi;unfold badR;simp only [zK];rw [yH hi,zV,aBz d,zC];rw [fO hi a];cases decide (97<=(c.toNat:Int))<;>cases decide ((c.toNat:Int)<=122)<;>cases decide (0<(i:Int))<;>cases decide (48<=(c.toNat:Int))<;>cases decide ((c.toNat:Int)<=57)<;>cases decide ((c.toNat:Int)=45)<;>rfl;intro b;simp only [zK];rw [yK];rfl
theorem aUq (s:Str)(a:okS s):Fdl s=some (aTs s):=by
 unfold Fdl aTs;simp only [zK,zC,yN,aVi s a,aTi]
 cases s with
 |nil=>rfl
 |cons c l=>
  have b:decide (((c::l).length:Int)<=30)=decide ((c::l).length<=30):=decide_eq_decide.2 (by omega);have d:decide ((c::l)≠[])=true:=by simp
  have e:rH badR l (0+1)=rH aMj l (0+1):=aMd l (0+1) λj _ _=>by
   have:decide (0<((0+1+j:Nat):Int))=true:=dT (by omega);unfold badR aMj nmB;rw [this];simp only [Bool.true_and,Bool.or_assoc]
  rw [rH,rH,e,b,d];have f:badR 0 c= !(decide (97<=(c.toNat:Int))&&decide ((c.toNat:Int)<=122)):=by unfold badR;simp
  have g:aMj 0 c= !(aEy (c::l)||(decide (48<=(c.toNat:Int))&&decide ((c.toNat:Int)<=57))||decide ((c.toNat:Int)=45)):=rfl;have h:badR 0 c= !aEy (c::l):=f;rw [g,h]
  cases aEy (c::l)<;>cases rH aMj l (0+1)<;>cases decide ((c::l).length<=30)<;>cases isW (c::l)<;>simp [gJ,gB]
end Go.Lf
