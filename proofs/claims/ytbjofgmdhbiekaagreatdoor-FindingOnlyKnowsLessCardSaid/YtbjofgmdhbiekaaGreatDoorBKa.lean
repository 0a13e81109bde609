/- Laws that the claim stands on; no condition beyond those stated. -/
import Derived.Test.YtbjofgmdhbiekaaGreatDoorUP
import Derived.Test.YtbjofgmdhbiekaaGreatDoorPLb
namespace Go.Lf
open Go.RowKit Go.OB
theorem nwi (a n b:Int):(!(decide (a<=n)&&decide (n<=b)))=(decide (n<a)||decide (b<n)):=by
 by_cases c:a<=n<;>by_cases d:n<=b;simp [c,d,Int.not_lt.2 c,Int.not_lt.2 d];simp [c,d,Int.not_le.1 d];simp [c,d,Int.not_le.1 c];simp [c,d,Int.not_le.1 c]
theorem lwi (n a b:Int):Fac n a b=some (decide (a<=n)&&decide (n<=b)):=by
 unfold Fac;simp only [zD,dM,zA]
theorem fwi (n a b:Int):Fan n a b=some (decide (a<=n)&&decide (n<=b)):=by
 unfold Fan;simp only [zD,dM,zA]
theorem swi (n a b:Int):Faa n a b=some (decide (a<=n)&&decide (n<=b)):=by
 unfold Faa;simp only [zD,dM,zA]
theorem vwi (n a b:Int):Fa3 n a b=some (decide (a<=n)&&decide (n<=b)):=by
 unfold Fa3;simp only [zD,dM,zA]
theorem out2 (n a b:Int):Fad n a b=some (decide (n<a)||decide (b<n)):=by
 unfold Fad;simp only [zD,xC,zA]
theorem aQm (n a b:Int):Fab n a b=some (decide (n<a)||decide (b<n)):=by
 unfold Fab;simp only [zD,xC,zA]
theorem out7 (n a b:Int):Fba n a b=some (decide (n<a)||decide (b<n)):=by
 unfold Fba;simp only [zD,xC,zA]
def vI (x:Nat):Bool:=decide (97<=x)&&decide (x<=122)
def tH:Str->Bool
 | []=>false
 |c::t=>decide (t.length<30)&&(vI c.toNat&&t.all λc=>aA c.toNat)
theorem low_nm {x:Nat}(h:vI x=true):aA x=true:=by
 unfold vI at h;unfold aA;rw [h];rfl
theorem aQa (s:Str):Fbk s=some (tH s):=by
 cases s with
 |nil=>rfl
 |cons c t=>
  unfold Fbk tH Ffq;simp only [zD,List.length_cons,show byte' (c::t) 0=some (c.toNat:Int)from wZ (s:=c::t) (i:=0) rfl,zA,xC];have a:decide (((t.length+1:Nat):Int)<1)=false:=qD (by omega);rw [a];simp only [Bool.false_or];have b:(decide ((c.toNat:Int)<97)||decide (122<(c.toNat:Int)))= !vI c.toNat:=by
   unfold vI;have:=nwi 97 (c.toNat:Int) 122;rw [<-this]
   congr 2
   ·exact decide_eq_decide.2 (by omega)
   ·exact decide_eq_decide.2 (by omega)
  rw [Bool.or_assoc,b];have d:(!(c::t).any λc=> !aA c.toNat)=(c::t).all λc=>aA c.toNat:=by
   rw [List.any_eq_not_all_not];simp
  rw [d,List.all_cons];have e:decide (30<((t.length+1:Nat):Int))= !decide (t.length<30):=by
   by_cases h:t.length<30
   ·rw [dT h];exact qD (by omega)
   ·rw [qD h];exact dT (by omega)
  rw [e]
  cases h1:decide (t.length<30)with
  |false=>rfl
  |true=>
   cases h2:vI c.toNat with
   |false=>rfl
   |true=>rw [low_nm h2];rfl
theorem aQb (s:Str) (d:s.length<=9223372036854775807):Fb1 s=some (tH s):=by
 unfold Fb1 Fhq;rw [yC];rw [xG s (λi c=>if (!(vI c.toNat||(decide (0<i)&&aA c.toNat)))=true then some (some false)else none) (some (decide (1<=(s.length:Int))&&decide ((s.length:Int)<=30))) d]
 ·rw [rJ]
  cases s with
  |nil=>rfl
  |cons c t=>
   have e:pV (λi (c:UInt8)=> !(vI c.toNat||(decide (0<i)&&aA c.toNat))) (c::t) 0= !(vI c.toNat&&t.all λc=>aA c.toNat):=by
    rw [pV];have f: ∀(l:List UInt8) (i:Nat),pV (λi (c:UInt8)=> !(vI c.toNat||(decide (0<i)&&aA c.toNat))) l (i+1)= !(l.all λc=>aA c.toNat):=by
     intro l
     induction l with
     |nil=>intro i;rfl
     |cons x l g=>
      intro i;rw [pV,g,List.all_cons];have:(vI x.toNat||(decide (0<i+1)&&aA x.toNat))=aA x.toNat:=by
       rw [dT (Nat.succ_pos i),Bool.true_and]
       cases h:vI x.toNat with
       |false=>rfl
       |true=>rw [low_nm h];rfl
      rw [this]
      cases aA x.toNat<;>rfl
    rw [f];simp only [Nat.lt_irrefl,decide_false,Bool.false_and,Bool.or_false]
    cases vI c.toNat<;>rfl
   rw [e,show tH (c::t)=(decide (t.length<30)&&(vI c.toNat&&t.all λc=>aA c.toNat))from rfl];have a:decide (1<=(((c::t).length:Nat):Int))=true:=dT (by rw [List.length_cons];omega);have b:decide ((((c::t).length:Nat):Int)<=30)=decide (t.length<30):=decide_eq_decide.2 (by rw [List.length_cons];omega);rw [a,b]
   cases vI c.toNat<;>cases(t.all λc=>aA c.toNat)<;>cases decide (t.length<30)<;>rfl
 ·intro k i c j hi;simp only [zD,yB hi,zO,wZ j,zA,dM];have a:(decide (97<=(c.toNat:Int))&&decide ((c.toNat:Int)<=122))=vI c.toNat:=by
   unfold vI;congr 1<;>exact decide_eq_decide.2 (by omega)
  have b:decide (0<(i:Int))=decide (0<i):=decide_eq_decide.2 (by omega);rw [a,b];have m:gI (decide (48<=(c.toNat:Int))&&decide ((c.toNat:Int)<=57)) (some false) (some !decide ((c.toNat:Int)=45))=some !((decide (48<=c.toNat)&&decide (c.toNat<=57))||decide (c.toNat=45)):=by
   have n:decide (48<=(c.toNat:Int))=decide (48<=c.toNat):=decide_eq_decide.2 (by omega);have a2:decide ((c.toNat:Int)<=57)=decide (c.toNat<=57):=decide_eq_decide.2 (by omega);have a3:decide ((c.toNat:Int)=45)=decide (c.toNat=45):=decide_eq_decide.2 (by omega);rw [n,a2,a3]
   cases(decide (48<=c.toNat)&&decide (c.toNat<=57))<;>rfl
  rw [m,fH hi d];have o:aA c.toNat=(vI c.toNat||((decide (48<=c.toNat)&&decide (c.toNat<=57))||decide (c.toNat=45))):=by
   unfold aA vI;rw [Bool.or_assoc]
  rw [o];generalize vI c.toNat=b1;generalize ((decide (48<=c.toNat)&&decide (c.toNat<=57))||decide (c.toNat=45))=b2;generalize decide (0<i)=b3
  cases b1<;>cases b2<;>cases b3<;>rfl
 ·intro k;simp only [zD,yE,zL,dM,zA]
theorem yP {b c:Type}{body:(b->Option c)->b->Option c}(a:Nat->b)(n:Nat){g0:b}{r:Option c}(d:n<=9223372036854775807)(e:g0=a 0)
    (h: ∀k i,i<n->body k (a i)=k (a (i+1)))(f: ∀k,body k (a n)=r):gY body g0=r:=by
 subst e;have:=loopO_at (body:=body) a (List.replicate n ()) r (by simpa using d) (λk i _ _ hi=>h k i (by simpa using hi)) (λk=>by rw [List.length_replicate];exact f k);exact this
theorem bU {a:Type}{l:List a}{i:Nat}{x:a}(h:l[i]? =some x):l.take (i+1)=l.take i++[x]:=by
 rw [List.take_add_one,h];rfl
def aIz {a:Type}(p:a->Bool):List a->Nat->Int
 | [],_=> -1
 |x::l,i=>if p x=true then(i:Int)else aIz p l (i+1)
theorem qK {a:Type}(p:a->Bool): ∀(l:List a) (i:Nat),decide (0<=aIz p l i)=l.any p
 | [],_=>rfl
 |x::l,i=>by
  rw [aIz,List.any_cons]
  cases h:p x with
  |true=>rw [if_pos rfl,Bool.true_or];exact dT (by omega)
  |false=>rw [if_neg (by decide),Bool.false_or];exact qK p l (i+1)
theorem jT {a:Type}{body:(Int->Option Int)->Int->Option Int}(l:List a)(p:a->Bool)(b:l.length<=9223372036854775807)
  (h: ∀k (i:Nat) x,l[i]? =some x->i<l.length->body k (i:Int)=gI (p x) (some (i:Int)) (k ((i+1:Nat):Int)))(c: ∀k,body k (l.length:Int)=some (-1)):gY body 0=some (aIz p l 0):=by
 rw [xG l (λi x=>if p x=true then some (some (i:Int))else none) (some (-1)) b (λk i x d e=>by rw [h k i x d e];cases p x<;>rfl) c];have: ∀(l:List a) (i:Nat),eU (λi x=>if p x=true then some (some (i:Int))else none) (some (-1)) l i=some (aIz p l i):=by
  intro l
  induction l with
  |nil=>intro i;rfl
  |cons x l f=>
   intro i;rw [eU,aIz]
   cases p x with
   |true=>rfl
   |false=>exact f (i+1)
 exact this l 0
theorem contI_eq (l:List Int)(c:Int)(a:l.length<=9223372036854775807):Fca l c=some (l.any λy=>decide (c=y)):=by
 unfold Fca Fel Fgj;rw [yC,zD,jT l (λy=>decide (c=y)) a (λk _ _ d b=>by simp only [zD,yB b,zO,yK d,zA,fH b a]) (λk=>by simp only [zD,yE,zL]),zA,zD,qK]
theorem contS_eq (l:List Str)(c:Str)(a:l.length<=9223372036854775807):Fbx l c=some (l.any λy=>decide (c=y)):=by
 unfold Fbx Fc3 Fhz;rw [yC,zD,jT l (λy=>decide (c=y)) a (λk _ _ d b=>by simp only [zD,yB b,zO,yK d,zA,fH b a]) (λk=>by simp only [zD,yE,zL]),zA,zD,qK]
theorem contM_eq (l:List Param)(c:Param)(a:l.length<=9223372036854775807):Fcr l c=some (l.any λy=>decide (y.Name=c.Name)):=by
 unfold Fcr Fdv Fih;rw [yC,zD,jT l (λy=>decide (y.Name=c.Name)) a (λk _ _ d b=>by simp only [zD,yB b,zO,yK d,zA,fH b a,Ffd]) (λk=>by simp only [zD,yE,zL]),zA,zD,qK]
theorem contP_eq (l:List Part)(c:Int)(a:l.length<=9223372036854775807):Fcs l c=some (l.any λy=>decide (16<=IntKind.i64.wrap (c+y.Frame))):=by
 unfold Fcs Ffh Fgv;rw [yC,zD,jT l (λy=>decide (16<=IntKind.i64.wrap (c+y.Frame))) a (λk _ _ d b=>by simp only [zD,yB b,zO,yK d,zA,fH b a,Fdo]) (λk=>by simp only [zD,yE,zL]),zA,zD,qK]
theorem jJ {a b:Type}{body:(Int->Option b)->Int->Option b}(l:List a)(p:a->Bool)(r fin:Option b)(c:l.length<=9223372036854775807)
  (h: ∀k (i:Nat) x,l[i]? =some x->i<l.length->body k (i:Int)=gI (p x) r (k ((i+1:Nat):Int)))(d: ∀k,body k (l.length:Int)=fin):gY body 0=gI (l.any p) r fin:=by
 rw [xG l (λ_ x=>if p x=true then some r else none) fin c (λk i x e f=>by rw [h k i x e f];cases p x<;>rfl) d];have: ∀(l:List a) (i:Nat),eU (λ_ x=>if p x=true then some r else none) fin l i=gI (l.any p) r fin:=by
  intro l
  induction l with
  |nil=>intro i;rfl
  |cons x l g=>
   intro i;rw [eU,List.any_cons]
   cases p x with
   |true=>rfl
   |false=>exact g (i+1)
 exact this l 0
theorem any_loopF {e b:Type}{body:(Int->Option b)->Int->Option b}(l:List e)(p:e->Bool)(r fin:Option b)(g:l.length<=9223372036854775807)
  (h: ∀k (i:Nat) x,l[i]? =some x->i<l.length->body k (i:Int)=gI (p x) r (k ((i+1:Nat):Int)))(j:l.any p=false-> ∀k,body k (l.length:Int)=fin):gY body 0=gI (l.any p) r fin:=by
 have c: ∀(d i n:Nat),i+d=l.length->d<n->(l.take i).any p=false->aN body n (i:Int)=gI (l.any p) r fin:=by
  intro d
  induction d with
  |zero=>
   intro i n o q a;obtain⟨m,rfl⟩: ∃m,n=m+1:=⟨n-1,by omega⟩;obtain rfl:i=l.length:=by omega
   rw [List.take_length]at a;rw [aN,j a,a];rfl
  |succ d s=>
   intro i n o q a;obtain⟨m,rfl⟩: ∃m,n=m+1:=⟨n-1,by omega⟩;have hi:i<l.length:=by omega
   have f:l[i]? =some l[i]:=gE hi;rw [aN,h _ i _ f hi]
   cases hp:p l[i]with
   |true=>
    have:l.any p=true:=List.any_eq_true.2 ⟨l[i],List.getElem_mem hi,hp⟩;rw [this];rfl
   |false=>
    refine s (i+1) m (by omega) (by omega) ?_;rw [bU f,List.any_append,a,List.any_cons,hp];rfl
 exact c l.length 0 FU (by omega) (aHi g) rfl
def jR (l:List Part):Int:=l.foldl (λs x=>IntKind.i64.wrap (s+x.Bits)) 0
theorem aKo {b a σ:Type}{body:(σ×Int->Option a)->σ×Int->Option a}(l:List b)(f:σ->b->σ)(fin:σ->Option a)(s:σ)(c:l.length<=9223372036854775807)
  (h: ∀k (i:Nat) s x,l[i]? =some x->i<l.length->body k (s,(i:Int))=k (f s x,((i+1:Nat):Int)))(d: ∀k s,body k (s,(l.length:Int))=fin s):gY body (s,0)=fin (l.foldl f s):=
 aIf (λ(i:Nat) (s:σ)=>(s,(i:Int))) l f fin c h d s
theorem aLc (p:Param)(a:p.Parts.length<=9223372036854775807):Fak p=some (jR p.Parts):=by
 unfold Fak Fhb;rw [zD,aKo p.Parts (λs x=>IntKind.i64.wrap (s+x.Bits)) (λs=>some s) 0 a (λk _ s x c b=>by simp only [zD,yB b,zO,yK c,zA,fH b a]) (λk s=>by simp only [zD,yE,zL])];rfl
theorem aLx (p:Param)(a:p.Parts.length<=9223372036854775807):Fa9 p=some (jR p.Parts):=aLc p a
def dC (n a b:Int):Bool:=decide (n<a)||decide (b<n)
theorem tZ {n a b:Int}:dC n a b=false↔a<=n/\n<=b:=by
 unfold dC;simp only [Bool.or_eq_false_iff,decide_eq_false_iff_not];omega
def aU (x:Part):Bool:=((dC x.Frame 0 15||dC x.Word 4 60)||dC x.Low 0 10)||dC x.Bits 1 (IntKind.i64.wrap (11-x.Low))
def pfM (p:Param):Int:=if p.Parts.length=0 then 13 else if 8<p.Parts.length then 3 else if p.Parts.any aU=true then 9 else if 40<jR p.Parts then 3 else 0
theorem pf_2 (p:Param) (a:p.Parts.length<=9223372036854775807):Ffe p=some (pfM p):=by
 unfold Ffe pfM Fg2;have c:((8:Int)<(p.Parts.length:Int))↔8<p.Parts.length:=by omega
 have d:((p.Parts.length:Int)=0)↔p.Parts.length=0:=by omega
 repeat (first |rw [zD]|rw [yC]|rw [zA])
 rw [jJ p.Parts aU (some 9) (if 40<jR p.Parts then some 3 else some 0) a]
 ·simp only [yN,c,d];split
  ·rfl
  ·split
   ·rfl
   ·cases p.Parts.any aU with
    |true=>rfl
    |false=>simp only [zL,Bool.false_eq_true,if_false];split<;>rfl
 ·intro k _ _ e b;simp only [zD,yB b,zO,yK e,zA,fH b a,out2,xC];rfl
 ·intro k;simp only [zD,yE,zL,aLx p a,zA,yN]
theorem aHq {x:Part}(h:aU x=false):0<=x.Frame/\x.Frame<=15/\4<=x.Word/\x.Word<=60/\0<=x.Low/\x.Low<=10/\1<=x.Bits/\x.Low+x.Bits<=11:=by
 unfold aU at h;simp only [Bool.or_eq_false_iff,tZ]at h;obtain⟨⟨⟨_,_⟩,_⟩,a⟩:=h;rw [Go.OB.wrap_i64 (by omega) (by omega)]at a;omega
def rZ (p:Param):Bool:= !(decide (p.Every=1)||(decide (p.Every=2)||(decide (p.Every=4)||(decide (p.Every=8)||decide (p.Every=16)))))||(dC p.First 0 (p.Every-1)||(dC p.Times 1 57||(decide (p.Step<0)|| !(decide (p.Step=0)==decide (p.Times=1)))))
def qG (p:Param)(x:Part):Bool:=decide (57<p.Step)||decide (60<x.Word+(p.Times-1)*p.Step)
def tfM (p:Param):Int:=if rZ p=true then 9 else if p.Parts.any (λx=>qG p x)=true then 9 else 0
structure dW (p:Param):Prop where
 ev:p.Every=1\/p.Every=2\/p.Every=4\/p.Every=8\/p.Every=16
 f0:0<=p.First
 f1:p.First<p.Every
 t1:1<=p.Times
 t2:p.Times<=57
 s0:0<=p.Step
 s1:p.Step=0↔p.Times=1
theorem aLo {p:Param}(h:rZ p=false):dW p:=by
 unfold rZ at h;simp only [Bool.or_eq_false_iff,tZ,Bool.not_eq_false',Bool.or_eq_true,decide_eq_true_eq,decide_eq_false_iff_not,beq_iff_eq,decide_eq_decide]at h;obtain⟨a,⟨b,_⟩,⟨c,d⟩,_,e⟩:=h;exact⟨a,b,by omega,c,d,by omega,e⟩
theorem every_l (n:Int):([1,2,4,8,16]:List Int).any (λy=>decide (n=y))=(decide (n=1)||(decide (n=2)||(decide (n=4)||(decide (n=8)||decide (n=16))))):=by
 simp only [List.any_cons,List.any_nil,Bool.or_false]
theorem prod_le {a b:Int}(d:0<=a)(e:a<=56)(c:0<=b)(f:b<=60):0<=a*b/\a*b<=3360:=by
 refine⟨Int.mul_nonneg d c,?_⟩;have:=Int.mul_le_mul e f c (by omega:(0:Int)<=56);omega
structure nY (p:Param):Prop where
 n1:1<=p.Parts.length
 n8:p.Parts.length<=8
 all: ∀x∈p.Parts,aU x=false
 sum:jR p.Parts<=40
theorem aJq {p:Param} (h:pfM p=0):nY p:=by
 unfold pfM at h;split at h
 ·cases h
 ·split at h
  ·cases h
  ·split at h
   ·cases h
   ·split at h
    ·cases h
    ·rename_i _ _ a _;refine⟨by omega,by omega,λx b=>?_,by omega⟩
     cases hb:aU x with
     |false=>rfl
     |true=>exact absurd (List.any_eq_true.2 ⟨x,b,hb⟩) a
theorem aUh (p:Param):(!(decide (p.Every=1)||(decide (p.Every=2)||(decide (p.Every=4)||(decide (p.Every=8)||decide (p.Every=16)))))||(decide (p.First<0)||decide (IntKind.i64.wrap (p.Every-1)<p.First))||(decide (p.Times<1)||decide (57<p.Times))||decide (p.Step<0)|| !(decide (p.Step=0)==decide (p.Times=1)))=rZ p:=by
 unfold rZ dC
 by_cases a:(decide (p.Every=1)||(decide (p.Every=2)||(decide (p.Every=4)||(decide (p.Every=8)||decide (p.Every=16)))))=true
 ·have:IntKind.i64.wrap (p.Every-1)=p.Every-1:=by
   simp only [Bool.or_eq_true,decide_eq_true_eq]at a;exact Go.OB.wrap_i64 (by omega) (by omega)
  rw [this];simp only [Bool.or_assoc]
 ·rw [Bool.not_eq_true]at a;rw [a];rfl
theorem aEs {b:Type}{p q:b->Bool}{l:List b}(h: ∀x∈l,p x=q x):l.any p=l.any q:=by
 rw [Bool.eq_iff_iff,List.any_eq_true,List.any_eq_true];constructor<;>rintro⟨x,a,_⟩;exact⟨x,a,by rwa [<-h x a]⟩;exact⟨x,a,by rwa [h x a]⟩
theorem aRb {p:Param}{x:Part} (a:dW p) (d:aU x=false):(decide (60<p.Step)||decide (60<IntKind.i64.wrap (x.Word+IntKind.i64.wrap (IntKind.i64.wrap (p.Times-1)*p.Step))))=qG p x:=by
 have e:=aHq d;have t1:=a.t1;have t2:=a.t2;unfold qG;rw [Go.OB.wrap_i64 (by omega: -9223372036854775808<=p.Times-1) (by omega)]
 by_cases c:p.Step<=60
 ·have f:=prod_le (by omega:0<=p.Times-1) (by omega) a.s0 c;rw [Go.OB.wrap_i64 (n:=(p.Times-1)*p.Step) (by omega) (by omega),Go.OB.wrap_i64 (by omega) (by omega)]
  by_cases b:57<p.Step
  ·have:1<p.Times:=by have:=a.s1;omega
   have g:p.Step<=(p.Times-1)*p.Step:=by
    have:=Int.mul_le_mul_of_nonneg_right (by omega:(1:Int)<=p.Times-1) a.s0;omega
   rw [dT b,dT (by omega:60<x.Word+(p.Times-1)*p.Step)];simp
  ·rw [qD b,qD (by omega: ¬60<p.Step)]
 ·rw [dT (by omega:60<p.Step),dT (by omega:57<p.Step)];rfl
theorem last_2 {p:Param}{x:Part} (a:dW p) (b:aU x=false):((decide (1<p.Times)&&decide (57<p.Step))||decide (60<IntKind.i64.wrap (x.Word+IntKind.i64.wrap (IntKind.i64.wrap (p.Times-1)*p.Step))))=qG p x:=by
 rw [<-aRb a b];have e:=aHq b;have t1:=a.t1;have t2:=a.t2;by_cases c:57<p.Step;have d:1<p.Times:=by have:=a.s1;omega
 rw [aRb a b];unfold qG;rw [dT c,dT d];rfl;rw [qD c,qD (by omega: ¬60<p.Step),Bool.and_false]
theorem pf_l (p:Param) (c:p.Parts.length<=9223372036854775807):Fci p=some (if pfM p=0 then tfM p else pfM p):=by
 unfold Fci Fiy;have g:((8:Int)<(p.Parts.length:Int))↔8<p.Parts.length:=by omega
 have h:((p.Parts.length:Int)=0)↔p.Parts.length=0:=by omega
 repeat (first |rw [zD]|rw [yC]|rw [zA])
 simp only [yN,g,h]
 by_cases a:p.Parts.length=0
 ·rw [if_pos a,show pfM p=13 by unfold pfM;rw [if_pos a]];rfl
 rw [if_neg a]
 by_cases c2:8<p.Parts.length
 ·rw [if_pos c2,show pfM p=3 by unfold pfM;rw [if_neg a,if_pos c2]];rfl
 rw [if_neg c2];rw [any_loopF p.Parts aU (some 9) (if 40<jR p.Parts then some 3 else some (tfM p)) c]
 ·cases c3:p.Parts.any aU with
  |true=>rw [show pfM p=9 by unfold pfM;rw [if_neg a,if_neg c2,if_pos c3]];rfl
  |false=>
   rw [zL]
   by_cases c4:40<jR p.Parts
   ·rw [if_pos c4,show pfM p=3 by unfold pfM;rw [if_neg a,if_neg c2,c3,if_neg (by decide),if_pos c4]];rfl
   ·rw [if_neg c4,show pfM p=0 by unfold pfM;rw [if_neg a,if_neg c2,c3,if_neg (by decide),if_neg c4]];rfl
 ·intro k i x e d;simp only [zD,yB d,zO,yK e,zA,fH d c,lwi,xC,nwi];rfl
 ·intro c3 k;have b: ∀x∈p.Parts,aU x=false:=λx f=>by
   cases hb:aU x with
   |false=>rfl
   |true=>rw [List.any_eq_true.2 ⟨x,f,hb⟩]at c3;cases c3
  simp only [zD,yE,zL,aLc p c,zA,yN]
  by_cases c4:40<jR p.Parts
  ·rw [if_pos c4,if_pos c4]
  rw [if_neg c4,if_neg c4];simp only [contI_eq _ _ (by decide:([1,2,4,8,16]:List Int).length<=9223372036854775807),zA,lwi,nwi,xC,every_l];have j:=aUh p;rw [j]
  cases hb:rZ p with
  |true=>rw [tfM,hb];rfl
  |false=>
   rw [zL];have l:=aLo hb;unfold Fh5;rw [jJ p.Parts (λx=>decide (60<p.Step)||decide (60<IntKind.i64.wrap (x.Word+IntKind.i64.wrap (IntKind.i64.wrap (p.Times-1)*p.Step)))) (some 9) (some 0) c]
   ·rw [tfM,hb,aEs (λx f=>aRb l (b x f)),if_neg (by decide)]
    cases(p.Parts.any λx=>qG p x)<;>rfl
   ·intro k i x e d;simp only [zD,yB d,zO,yK e,zA,fH d c,xC]
   ·intro k;simp only [zD,yE,zL]
theorem tf_2 (p:Param) (c:p.Parts.length<=9223372036854775807) (a: ∀x∈p.Parts,aU x=false):Fed p=some (tfM p):=by
 unfold Fed;simp only [zD,zA,out2,xC];have e:(gI (decide (p.Every=1)) (some (decide (p.Every=1))) (gI (decide (p.Every=2)) (some (decide (p.Every=2))) (gI (decide (p.Every=4)) (some (decide (p.Every=4))) (gI (decide (p.Every=8)) (some (decide (p.Every=8))) (some (decide (p.Every=16)))))))=some (decide (p.Every=1)||(decide (p.Every=2)||(decide (p.Every=4)||(decide (p.Every=8)||decide (p.Every=16))))):=by
  simp only [aTj]
 rw [e,zA];have b:=aUh p
 cases hE:(decide (p.Every=1)||(decide (p.Every=2)||(decide (p.Every=4)||(decide (p.Every=8)||decide (p.Every=16)))))with
 |false=>
  rw [hE]at b;rw [zL,tfM,<-b];rfl
 |true=>
  rw [hE]at b;simp only [Bool.not_true,Bool.false_or]at b;rw [zO,b]
  cases hb:rZ p with
  |true=>rw [tfM,hb];rfl
  |false=>
   rw [zL,yC];have f:=aLo hb;unfold Fgx;rw [jJ p.Parts (λx=>(decide (1<p.Times)&&decide (57<p.Step))||decide (60<IntKind.i64.wrap (x.Word+IntKind.i64.wrap (IntKind.i64.wrap (p.Times-1)*p.Step)))) (some 9) (some 0) c]
   ·rw [tfM,hb,aEs (λx g=>last_2 f (a x g)),if_neg (by decide)]
    cases(p.Parts.any λx=>qG p x)<;>rfl
   ·intro k _ x h d;simp only [zD,yB d,zO,yK h,zA,fH d c,xC,dM]
   ·intro k;simp only [zD,yE,zL]
def kcM (K B:Int):Bool:=((decide (K=4)&&decide (B.tmod 4≠0))||(decide (K=5)&&decide (B≠1)))||((decide (K=2)||decide (K=3))&&decide (B=1))
def aRs:List Str->Int:=λl=>match eU (λi x=>if tH x=true then(if (l.take i).any (λy=>decide (x=y))=true then some (some 5)else none)else some (some 8)) (some 0) l 0 with
 |some n=>n
 |none=>0
def kfM (p:Param):Int:=if kcM p.Kind (jR p.Parts)=true then 2 else if p.Kind≠6 then(if 0<p.Names.length then 2 else 0)else if p.Names.length=0 then 13 else if 64<p.Names.length\/(2:Int)^(jR p.Parts).toNat<p.Names.length then 3 else aRs p.Names
theorem aJy (l:List Str):eU (λi x=>if tH x=true then(if (l.take i).any (λy=>decide (x=y))=true then some (some (5:Int))else none)else some (some 8)) (some 0) l 0=some (aRs l):=by
 have: ∀(m:List Str) (i:Nat),∃n,eU (λi x=>if tH x=true then(if (l.take i).any (λy=>decide (x=y))=true then some (some (5:Int))else none)else some (some 8)) (some 0) m i=some n:=by
  intro m
  induction m with
  |nil=>intro i;exact⟨0,rfl⟩
  |cons x m d=>
   intro i;rw [eU]
   by_cases a:tH x=true
   ·rw [if_pos a]
    by_cases b:(l.take i).any (λy=>decide (x=y))=true
    ·rw [if_pos b];exact⟨5,rfl⟩
    ·rw [if_neg b];exact d (i+1)
   ·rw [if_neg a];exact⟨8,rfl⟩
 obtain⟨n,c⟩:=this l 0;rw [c,aRs,c]
theorem aGn: ∀(l:List Part) (s:Int),(∀x∈l,aU x=false)->0<=s->s+11*l.length<=1000->l.foldl (λs x=>IntKind.i64.wrap (s+x.Bits)) s=s+(l.map Part.Bits).sum/\0<=(l.map Part.Bits).sum/\(l.map Part.Bits).sum<=11*l.length
 | [],s,_,_,_=>by simp
 |x::l,s,h,c,a=>by
  have d:=aHq (h x (List.mem_cons_self ..));rw [List.length_cons]at a;rw [List.foldl_cons,Go.OB.wrap_i64 (by omega) (by omega)];have:=aGn l (s+x.Bits) (λy b=>h y (List.mem_cons_of_mem _ b)) (by omega) (by omega);rw [this.1,List.map_cons,List.sum_cons,List.length_cons];omega
theorem aHw {p:Param}(h:nY p):1<=jR p.Parts:=by
 have a:=h.n1;have b:=h.n8;have:=aGn p.Parts 0 h.all (by omega) (by omega);unfold jR;rw [this.1]
 cases hp:p.Parts with
 |nil=>rw [hp]at a;simp at a
 |cons x l=>
  have d:=aHq (h.all x (by rw [hp];exact List.mem_cons_self ..));have e:=aGn l 0 (λy c=>h.all y (by rw [hp];exact List.mem_cons_of_mem _ c)) (by omega) (by rw [hp]at b;simp at b;omega);rw [List.map_cons,List.sum_cons];omega
theorem shl_1 {n:Int}(a:0<=n)(h:n<=40):kU .i64 1 n=some ((2:Int)^n.toNat):=by
 unfold kU;have e:(IntKind.i64.bits:Int)=64:=rfl;rw [if_pos ⟨a,by rw [e];omega⟩];have b:(2:Int)^n.toNat<=2^40:=by
  have:(2:Nat)^n.toNat<=2^40:=Nat.pow_le_pow_right (by decide) (by omega)
  exact_mod_cast this
 have c:(0:Int)<=2^n.toNat:=Int.pow_nonneg (by decide);rw [Int.one_mul,Go.OB.wrap_i64 (by omega) (by omega)]
theorem rem_4 (n:Int):kP n 4=some (n.tmod 4):=by unfold kP;rw [if_neg (by decide)]
theorem kf_l (p:Param) (h:p.Parts.length<=9223372036854775807) (d:p.Names.length<=9223372036854775807) (e:nY p):Fcv p=some (kfM p):=by
 have l:=aHw e;have b:=e.sum;unfold Fcv kfM;simp only [aLc p h,rem_4,shl_1 (by omega:0<=jR p.Parts) b,zA,zD,yC,dM,xC];show gI (kcM p.Kind (jR p.Parts)) _ _=_
 cases kcM p.Kind (jR p.Parts)with
 |true=>rfl
 |false=>
  rw [zL,if_neg (by decide),yN]
  by_cases a:p.Kind≠6
  ·rw [if_pos a,if_pos a,yN]
   by_cases c:0<p.Names.length
   ·rw [if_pos c,if_pos (by omega)]
   ·rw [if_neg c,if_neg (by omega)]
  rw [if_neg a,if_neg a,yN]
  by_cases c0:p.Names.length=0
  ·rw [if_pos c0,if_pos (by omega)]
  rw [if_neg c0,if_neg (by omega)]
  by_cases f:64<p.Names.length\/(2:Int)^(jR p.Parts).toNat<p.Names.length
  ·rw [if_pos f];have:(decide (64<(p.Names.length:Int))||decide ((2:Int)^(jR p.Parts).toNat<(p.Names.length:Int)))=true:=by
    rw [Bool.or_eq_true,decide_eq_true_eq,decide_eq_true_eq];omega
   rw [this];rfl
  rw [if_neg f];have:(decide (64<(p.Names.length:Int))||decide ((2:Int)^(jR p.Parts).toNat<(p.Names.length:Int)))=false:=by
   rw [Bool.or_eq_false_iff,decide_eq_false_iff_not,decide_eq_false_iff_not];omega
  rw [this,zL,<-aJy];unfold Fg1;refine xG p.Names _ _ d (λk i x j g=>?_) (λk=>by simp only [zD,yE,zL]);simp only [zD,yB g,zO,yK j,zA,fH g d,aQa,aAk p.Names (by omega:i<=p.Names.length)]
  cases tH x with
  |false=>rfl
  |true=>
   rw [if_pos rfl,contS_eq _ _ (by rw [List.length_take];omega)]
   cases((p.Names.take i).any λy=>decide (x=y))<;>rfl
theorem kf_2 (p:Param) (m:p.Parts.length<=9223372036854775807) (e:p.Names.length<=9223372036854775807) (n: ∀s∈p.Names,s.length<=9223372036854775807) (f:nY p):Fdt p=some (kfM p):=by
 have q:=aHw f;have d:=f.sum;unfold Fdt kfM;simp only [aLx p m,rem_4,shl_1 (by omega:0<=jR p.Parts) d,zA,zD,yC,dM,xC];show gI (kcM p.Kind (jR p.Parts)) _ _=_
 cases kcM p.Kind (jR p.Parts)with
 |true=>rfl
 |false=>
  rw [zL,if_neg (by decide),yN]
  by_cases b:p.Kind≠6
  ·rw [if_pos b,if_pos b,yN]
   by_cases c:0<p.Names.length
   ·rw [if_pos c,if_pos (by omega)]
   ·rw [if_neg c,if_neg (by omega)]
  rw [if_neg b,if_neg b,yN]
  by_cases c0:p.Names.length=0
  ·rw [if_pos c0,if_pos (by omega)]
  rw [if_neg c0,if_neg (by omega)]
  by_cases g:64<p.Names.length\/(2:Int)^(jR p.Parts).toNat<p.Names.length
  ·rw [if_pos g];have:(decide (64<(p.Names.length:Int))||decide ((2:Int)^(jR p.Parts).toNat<(p.Names.length:Int)))=true:=by
    rw [Bool.or_eq_true,decide_eq_true_eq,decide_eq_true_eq];omega
   rw [this];rfl
  rw [if_neg g];have:(decide (64<(p.Names.length:Int))||decide ((2:Int)^(jR p.Parts).toNat<(p.Names.length:Int)))=false:=by
   rw [Bool.or_eq_false_iff,decide_eq_false_iff_not,decide_eq_false_iff_not];omega
  rw [this,zL,<-aJy];unfold Fiw;refine xG p.Names _ _ e (λk i x h l=>?_) (λk=>by simp only [zD,yE,zL]);simp only [zD,yC,yB l,zO,yK h,zA,fH l e,aQb x (n x (qS h)),aAk p.Names (by omega:i<=p.Names.length)]
  cases tH x with
  |false=>rfl
  |true=>
   rw [if_pos rfl];unfold Fhl;have a:(p.Names.take i).length<=9223372036854775807:=by rw [List.length_take];omega
   rw [jJ (p.Names.take i) (λy=>decide (x=y)) (some 5) (k ((i+1:Nat):Int)) a (λo _ y g1 g2=>by simp only [zD,yB g2,zO,yK g1,zA,fH g2 a]) (λo=>by simp only [zD,yE,zL])]
   cases((p.Names.take i).any λy=>decide (x=y))<;>rfl
theorem aG {b:Type}{a:Nat}{l m:List b}(h:l.length+m.length<=100000000)(c:a<=1000):app' a l m=some (l++m):=by
 unfold app';rw [if_pos];have e:maxLen=9223372036854775807:=maxLen_eq;refine⟨by omega,?_⟩;have:=Nat.mul_le_mul h c;omega
def stL (p:Param):List Int:=(List.range (16/p.Every).toNat).map λ(k:Nat)=>p.First+(k:Int)*p.Every
def aBj (p:Param)(s:Int):Bool:= !(p.Parts.any λy=>decide (16<=IntKind.i64.wrap (s+y.Frame)))
def dE (p:Param):List Int:=(stL p).filter (aBj p)
def uH (p:Param)(s t:Int)(y:Part):fE:=fE.mk (IntKind.i64.wrap (s+y.Frame)) (IntKind.i64.wrap (y.Word+IntKind.i64.wrap (t*p.Step))) y.Low y.Bits
def dI (p:Param)(s t:Int):List fE:=p.Parts.map (uH p s t)
def aB (p:Param)(a s:Int)(base n:Nat):List Cell:=(List.range n).map λ(t:Nat)=>Cell.mk a ((base+t:Nat):Int) s (dI p s t)
def cellsS (p:Param)(a:Int)(l:List Int):List Cell:=l.foldl (λcs s=>cs++aB p a s cs.length p.Times.toNat) []
def gK (p:Param)(a:Int):List Cell:=cellsS p a (dE p)
theorem stL_len (p:Param):(stL p).length=(16/p.Every).toNat:=by unfold stL;rw [List.length_map,List.length_range]
theorem aQu {p:Param}{i:Nat}{s:Int}(h:(stL p)[i]? =some s):s=p.First+i*p.Every:=by
 unfold stL at h;rw [List.getElem?_map]at h
 cases hr:(List.range (16/p.Every).toNat)[i]? with
 |none=>rw [hr]at h;cases h
 |some _=>
  rw [hr]at h;have:=(gS.1 hr).2;rw [List.getElem_range]at this;subst this;simpa using h.symm
theorem uT {p:Param} (a:dW p):(stL p).length<=16/\(∀i<(stL p).length,p.First+(i:Int)*p.Every<16)/\ ¬(p.First+((stL p).length:Int)*p.Every<16):=by
 rw [stL_len];have c:=a.f0;have b:=a.f1;rcases a.ev with e|e|e|e|e<;>rw [e]at b⊢
 ·refine⟨by decide,λi hi=>?_,?_⟩
  ·have:i<16:=hi;omega
  ·show¬(p.First+((16:Nat):Int)*1<16);omega
 ·refine⟨by decide,λi hi=>?_,?_⟩
  ·have:i<8:=hi;omega
  ·show¬(p.First+((8:Nat):Int)*2<16);omega
 ·refine⟨by decide,λi hi=>?_,?_⟩
  ·have:i<4:=hi;omega
  ·show¬(p.First+((4:Nat):Int)*4<16);omega
 ·refine⟨by decide,λi hi=>?_,?_⟩
  ·have:i<2:=hi;omega
  ·show¬(p.First+((2:Nat):Int)*8<16);omega
 ·refine⟨by decide,λi hi=>?_,?_⟩
  ·have:i<1:=hi;omega
  ·show¬(p.First+((1:Nat):Int)*16<16);omega
theorem aGa {p:Param}(a:dW p):1<=p.Every/\p.Every<=16:=by have:=a.ev;omega
theorem next_w {p:Param}(a:dW p){i:Nat}(hi:i<(stL p).length):IntKind.i64.wrap (p.First+(i:Int)*p.Every+p.Every)=p.First+((i+1:Nat):Int)*p.Every:=by
 have b:=(uT a).2.1 i hi;have c:=aGa a;have:(0:Int)<=(i:Int)*p.Every:=Int.mul_nonneg (by omega) (by omega);have d:=a.f0;rw [Go.OB.wrap_i64 (by omega) (by omega)];have e:((i+1:Nat):Int)*p.Every=(i:Int)*p.Every+p.Every:=by rw [Int.natCast_add,Int.add_mul,Int.natCast_one,Int.one_mul]
 omega
theorem aOj {p:Param} (a:dW p) (e:p.Parts.length<=9223372036854775807):Fa1 p=some (dE p):=by
 obtain⟨f1,f2,f3⟩:=uT a;unfold Fa1 Fhx;rw [yP (r:=some (dE p)) (λi=>(((stL p).take i).filter (aBj p),p.First+(i:Int)*p.Every)) (stL p).length (by omega)]
 ·rfl
 ·show([],p.First)=([],p.First+((0:Nat):Int)*p.Every);rw [Int.natCast_zero,Int.zero_mul,Int.add_zero]
 ·intro k i hi;have b:(stL p)[i]? =some (stL p)[i]:=gE hi;have c:=aQu b;simp only [zD];rw [dT (f2 i hi),zO,contP_eq _ _ e,zA,next_w a hi,bU b,List.filter_append];have f:aBj p (stL p)[i]= !(p.Parts.any λy=>decide (16<=IntKind.i64.wrap (p.First+(i:Int)*p.Every+y.Frame))):=by rw [c];rfl
  rw [<-f]
  cases h:aBj p (stL p)[i]with
  |false=>
   rw [zL,zA,List.filter_cons_of_neg (by rw [h];decide),List.filter_nil,List.append_nil]
  |true=>
   have d:(((stL p).take i).filter (aBj p)).length<=16:=Nat.le_trans (List.length_filter_le _ _) (by rw [List.length_take];omega);rw [zO,aG (by rw [List.length_singleton];omega) (by decide),zA,zA,List.filter_cons_of_pos h,List.filter_nil,<-c]
 ·intro k;simp only [zD];rw [qD f3,zL,List.take_length];rfl
theorem aPb (p:Param)(s t:Int){i:Nat}{y:Part}(h:p.Parts[i]? =some y):(p.Parts.take (i+1)).map (uH p s t)=(p.Parts.take i).map (uH p s t)++[uH p s t y]:=by
 rw [bU h,List.map_append,List.map_singleton]
theorem aPj (p:Param)(a s:Int)(b n:Nat):aB p a s b (n+1)=aB p a s b n++[Cell.mk a ((b+n:Nat):Int) s (dI p s n)]:=by
 unfold aB;rw [List.range_succ,List.map_append,List.map_singleton]
theorem jF (p:Param)(a s:Int)(b n:Nat):(aB p a s b n).length=n:=by unfold aB;rw [List.length_map,List.length_range]
theorem aFe (p:Param)(a:Int)(l:List Int)(s:Int):cellsS p a (l++[s])=cellsS p a l++aB p a s (cellsS p a l).length p.Times.toNat:=by
 unfold cellsS;rw [List.foldl_append,List.foldl_cons,List.foldl_nil]
theorem vT (p:Param)(a:Int)(l:List Int):(cellsS p a l).length=l.length*p.Times.toNat:=by
 have: ∀(l:List Int) (cs:List Cell),(l.foldl (λcs s=>cs++aB p a s cs.length p.Times.toNat) cs).length=cs.length+l.length*p.Times.toNat:=by
  intro l
  induction l with
  |nil=>intro cs;simp
  |cons s l b=>
   intro cs;rw [List.foldl_cons,b,List.length_append,jF,List.length_cons,Nat.add_mul,Nat.one_mul];omega
 have:=this l [];simpa [cellsS]using this
theorem aEq {p:Param}(a:dW p)(b:Int)(l:List Int)(h:l.length<=16):(cellsS p b l).length<=912:=by
 rw [vT];have:=a.t2;have:=Nat.mul_le_mul h (by omega:p.Times.toNat<=57);omega
theorem aJl {p:Param}(a:dW p):(dE p).length<=16:=by
 unfold dE;exact Nat.le_trans (List.length_filter_le _ _) (uT a).1
theorem times_st {p:Param} (f:nY p) (d:dW p) (a s:Int) (cs:List Cell) (g:cs.length<=912):Feg a p s (cs,0)=some (cs++aB p a s cs.length p.Times.toNat):=by
 have t1:=d.t1;have t2:=d.t2;have h:=f.n8;unfold Feg;rw [yP (r:=some (cs++aB p a s cs.length p.Times.toNat)) (λi=>(cs++aB p a s cs.length i,(i:Int))) p.Times.toNat (by omega)]
 ·show(cs,(0:Int))=(cs++[],((0:Nat):Int));rw [List.append_nil];rfl
 ·intro k i _;simp only [zD];rw [dT (by omega:(i:Int)<p.Times),zO];have b:Fdc p s (i:Int) (p.Parts.length:Int) (0,[])=some (dI p s i):=by
   unfold Fdc;rw [yP (r:=some (dI p s i)) (λj=>((j:Int),(p.Parts.take j).map (uH p s i))) p.Parts.length (by omega)]
   ·rfl
   ·intro k j c;have e:p.Parts[j]? =some p.Parts[j]:=gE c;simp only [zD,yB c,zO,yK e,zA,Ffy];rw [aG (by rw [List.length_map,List.length_take,List.length_singleton];omega) (by decide),zA,fH c (by omega),aPb p s i e];rfl
   ·intro k;simp only [zD,yE,zL,List.take_length];rfl
  rw [b,zA,aG (by rw [List.length_append,jF,List.length_singleton];omega) (by decide),zA,zA,Go.OB.wrap_i64 (by omega) (by omega),aPj,List.length_append,jF,List.append_assoc];rfl
 ·intro k;simp only [zD];rw [qD (by omega),zL]
theorem aNc {p:Param} (c:nY p) (b:dW p) (a:Int):Fap a p=some (gK p a):=by
 have e:=aJl b;unfold Fap Fh6;rw [aOj b (by have:=c.n8;omega),zA,zD];rw [yP (r:=some (gK p a)) (λi=>(cellsS p a ((dE p).take i),(i:Int))) (dE p).length (by omega)];rfl;rfl;intro k i hi;have d:(dE p)[i]? =some (dE p)[i]:=gE hi;simp only [zD,yB hi,zO,yK d,zA];rw [times_st c b a _ _ (aEq b a _ (by rw [List.length_take];omega)),zA,fH hi (by omega),bU d,aFe];intro k;simp only [zD,yE,zL,List.take_length];rfl
theorem good_2 (p:Param)(a:p.Parts.length<=9223372036854775807)(s:Int):Ffv p s (p.Parts.length:Int) (true,0)=some (aBj p s):=by
 unfold Ffv;rw [aKo p.Parts (λb (y:Part)=>b&&decide (IntKind.i64.wrap (s+y.Frame)<16)) (λb=>some b) true a (λk _ b y e d=>by simp only [zD,yB d,zO,yK e,zA,fH d a,dM]) (λk b=>by simp only [zD,yE,zL])]
 congr 1
 have: ∀(l:List Part) (b:Bool),l.foldl (λb (y:Part)=>b&&decide (IntKind.i64.wrap (s+y.Frame)<16)) b=(b&& !(l.any λy=>decide (16<=IntKind.i64.wrap (s+y.Frame)))):=by
  intro l
  induction l with
  |nil=>intro b;simp
  |cons y l f=>
   intro b;rw [List.foldl_cons,f,List.any_cons];have:decide (IntKind.i64.wrap (s+y.Frame)<16)= !decide (16<=IntKind.i64.wrap (s+y.Frame)):=by
    by_cases c:16<=IntKind.i64.wrap (s+y.Frame)
    ·rw [dT c];exact qD (by omega)
    ·rw [qD c];exact dT (by omega)
   rw [this,Bool.not_or,Bool.and_assoc]
 rw [this];rfl
theorem times_2 {p:Param} (f:nY p) (d:dW p) (a s:Int) (cs:List Cell) (g:cs.length<=912):Fa2 p a s true (cs,0)=some (cs++aB p a s cs.length p.Times.toNat):=by
 have t1:=d.t1;have t2:=d.t2;have h:=f.n8;unfold Fa2;rw [yP (r:=some (cs++aB p a s cs.length p.Times.toNat)) (λi=>(cs++aB p a s cs.length i,(i:Int))) p.Times.toNat (by omega)]
 ·show(cs,(0:Int))=(cs++[],((0:Nat):Int));rw [List.append_nil];rfl
 ·intro k i _;simp only [zD];rw [dT (by omega:(i:Int)<p.Times),zO,zA,zO];have b:Ffz p s (i:Int) (p.Parts.length:Int) (0,[])=some (dI p s i):=by
   unfold Ffz;rw [yP (r:=some (dI p s i)) (λj=>((j:Int),(p.Parts.take j).map (uH p s i))) p.Parts.length (by omega)]
   ·rfl
   ·intro k j c;have e:p.Parts[j]? =some p.Parts[j]:=gE c;simp only [zD,yB c,zO,yK e,zA];rw [aG (by rw [List.length_map,List.length_take,List.length_singleton];omega) (by decide),zA,fH c (by omega),aPb p s i e];rfl
   ·intro k;simp only [zD,yE,zL,List.take_length];rfl
  rw [b,zA,aG (by rw [List.length_append,jF,List.length_singleton];omega) (by decide),zA,zA,Go.OB.wrap_i64 (by omega) (by omega),aPj,List.length_append,jF,List.append_assoc];rfl
 ·intro k;simp only [zD];rw [qD (by omega),zL,zA,zL]
theorem none_2 {p:Param}(a:dW p)(b s:Int)(cs:List Cell):Fa2 p b s false (cs,0)=some cs:=by
 unfold Fa2;rw [yP (r:=some cs) (λ_=>(cs,(0:Int))) 0 (by omega) rfl (λk _ _=>by omega)];intro k;simp only [zD];rw [dT (by have:=a.t1;omega:(0:Int)<p.Times),zO,zA,zL]
theorem aFz {p:Param} (d:nY p) (b:dW p) (a:Int):Fam p a=some (gK p a):=by
 obtain⟨f1,f2,f3⟩:=uT b;have g:=d.n8;unfold Fam Ff8;rw [yP (r:=some (gK p a)) (λi=>(cellsS p a (((stL p).take i).filter (aBj p)),p.First+(i:Int)*p.Every)) (stL p).length (by omega)]
 ·rfl
 ·show([],p.First)=([],p.First+((0:Nat):Int)*p.Every);rw [Int.natCast_zero,Int.zero_mul,Int.add_zero]
 ·intro k i hi;have e:(stL p)[i]? =some (stL p)[i]:=gE hi;have f:=aQu e;simp only [zD];rw [dT (f2 i hi),zO,good_2 p (by omega),zA,next_w b hi,bU e,List.filter_append];rw [<-f]
  cases h:aBj p (stL p)[i]with
  |false=>
   rw [none_2 b,zA,List.filter_cons_of_neg (by rw [h];decide),List.filter_nil,List.append_nil]
  |true=>
   have c:(((stL p).take i).filter (aBj p)).length<=16:=Nat.le_trans (List.length_filter_le _ _) (by rw [List.length_take];omega);rw [times_2 d b a _ _ (aEq b a _ c),zA,List.filter_cons_of_pos h,List.filter_nil,aFe]
 ·intro k;simp only [zD];rw [qD f3,zL,List.take_length];rfl
theorem aOg {b c:Type} [DecidableEq b] (k a:b) (v:c): ∀l:List (b×c),aBa (pU l k v) a=(decide (k=a)||aBa l a)
 | []=>by rw [pU];unfold aBa;rw [List.any_cons,List.any_nil]
 |p::l=>by
  have d:=aOg k a v l;rw [pU];unfold aBa at d⊢
  by_cases h:p.1=k
  ·rw [if_pos h,List.any_cons,List.any_cons,h]
   cases decide (k=a)<;>simp
  ·rw [if_neg h,List.any_cons,List.any_cons,d]
   cases decide (p.1=a)<;>cases decide (k=a)<;>rfl
theorem aIg {c d:Type} [DecidableEq c] (k b:c) (v z:d): ∀l:List (c×d),aX (pU l k v) b z=if k=b then v else aX l b z
 | []=>by
  rw [pU];unfold aX
  by_cases h:k=b
  ·rw [List.find?_cons_of_pos (by simpa using h),if_pos h]
  ·rw [List.find?_cons_of_neg (by simpa using h),if_neg h]
 |p::l=>by
  have f:=aIg k b v z l;rw [pU];unfold aX at f⊢
  by_cases h:p.1=k
  ·rw [if_pos h]
   by_cases a:k=b
   ·rw [List.find?_cons_of_pos (by simpa using a),if_pos a]
   ·rw [List.find?_cons_of_neg (by simpa using a),if_neg a,List.find?_cons_of_neg (by rw [h];simpa using a)]
  ·rw [if_neg h]
   by_cases a:p.1=b
   ·rw [List.find?_cons_of_pos (by simpa using a),List.find?_cons_of_pos (by simpa using a),if_neg (by rw [<-a];exact λe=>h e.symm)]
   ·rw [List.find?_cons_of_neg (by simpa using a),List.find?_cons_of_neg (by simpa using a)];exact f
theorem uS {b a σ:Type}{body:(Int×σ->Option a)->Int×σ->Option a}(l:List b)(f:Nat->b->σ->σ ⊕ Option a)(fin:σ->Option a)(s:σ)(d:l.length<=9223372036854775807)
  (h: ∀k (i:Nat) s x,l[i]? =some x->i<l.length->body k ((i:Int),s)=match f i x s with | .inl s'=>k (((i+1:Nat):Int),s')| .inr r=>r)(e: ∀k s,body k ((l.length:Int),s)=fin s):gY body (0,s)=aO f fin l 0 s:=
 mV (λ(i:Nat) (s:σ)=>((i:Int),s)) l f fin d (λk i s x c=>h k i s x c (gS.1 c).1) e s
theorem aJo {b a σ:Type}{body:(σ×Int->Option a)->σ×Int->Option a}(l:List b)(f:Nat->b->σ->σ ⊕ Option a)(fin:σ->Option a)(s:σ)(d:l.length<=9223372036854775807)
  (h: ∀k (i:Nat) s x,l[i]? =some x->i<l.length->body k (s,(i:Int))=match f i x s with | .inl s'=>k (s',((i+1:Nat):Int))| .inr r=>r)(e: ∀k s,body k (s,(l.length:Int))=fin s):gY body (s,0)=aO f fin l 0 s:=
 mV (λ(i:Nat) (s:σ)=>(s,(i:Int))) l f fin d (λk i s x c=>h k i s x c (gS.1 c).1) e s
def bF (x:fE):List gX:=(List.range x.Bits.toNat).map λ(i:Nat)=>gX.mk x.Frame x.Word (x.Low+(i:Int))
def OkP (x:fE):Prop:=0<=x.Low/\x.Low<=10/\1<=x.Bits/\x.Bits<=11
theorem bitsAt_l {x:fE} (h:OkP x):Fcy x=some (bF x):=by
 obtain⟨_,_,_,_⟩:=h;unfold Fcy Fg6;rw [yP (r:=some (bF x)) (λi=>((List.range i).map λ(i:Nat)=>gX.mk x.Frame x.Word (x.Low+(i:Int)),(i:Int))) x.Bits.toNat (by omega)];rfl;rfl;intro k i _;simp only [zD];rw [dT (by omega:(i:Int)<x.Bits),zO,Go.OB.wrap_i64 (by omega) (by omega),aG (by rw [List.length_map,List.length_range,List.length_singleton];omega) (by decide),zA,Go.OB.wrap_i64 (by omega) (by omega),List.range_succ,List.map_append,List.map_singleton];rfl;intro k;simp only [zD];rw [qD (by omega),zL];rfl
def tkP (o:Int):List gX->List (gX×Int)->Bool×List (gX×Int)
 | [],m=>(true,m)
 |b::l,m=>if aBa m b=true then(false,m)else tkP o l (pU m b o)
theorem aLn (o:Int): ∀(l l':List gX) (m:List (gX×Int)),tkP o (l++l') m=if (tkP o l m).1=true then tkP o l' (tkP o l m).2 else tkP o l m
 | [],l',m=>rfl
 |b::l,l',m=>by
  rw [List.cons_append,tkP,tkP]
  by_cases h:aBa m b=true
  ·rw [if_pos h,if_pos h];rfl
  ·rw [if_neg h,if_neg h];exact aLn o l l' _
theorem take_runP (o:Int)(l:List gX)(k:List (gX×Int)->Option (Bool×List (gX×Int)))(m:List (gX×Int))(a:l.length<=9223372036854775807):
  Fde o k l (l.length:Int) (0,m)=if (tkP o l m).1=true then k (tkP o l m).2 else some (tkP o l m):=by
 unfold Fde;rw [uS l (λ_ b m=>if aBa m b=true then .inr (some (false,m))else .inl (pU m b o)) (λm=>k m) m a
  (λk i m b d c=>by
   simp only [zD,yB c,zO,yK d,zA,fH c a]
   cases aBa m b<;>rfl)
  (λk m=>by simp only [zD,yE,zL])]
 have: ∀(l:List gX) (i:Nat) (m:List (gX×Int)),aO (λ_ b m=>if aBa m b=true then .inr (some (false,m))else .inl (pU m b o)) (λm=>k m) l i m=if (tkP o l m).1=true then k (tkP o l m).2 else some (tkP o l m):=by
  intro l
  induction l with
  |nil=>intro i m;rfl
  |cons b l e=>
   intro i m;rw [aO,tkP]
   cases h:aBa m b with
   |true=>rfl
   |false=>exact e (i+1) _
 exact this l 0 m
theorem take_l (o:Int)(l:List fE)(m:List (gX×Int))(a:l.length<=9223372036854775807)(e: ∀x∈l,OkP x):Fbn m o l=some (tkP o (l.flatMap bF) m):=by
 unfold Fbn Fhu;rw [yC,zD];rw [uS l (λ_ x m=>if (tkP o (bF x) m).1=true then .inl (tkP o (bF x) m).2 else .inr (some (tkP o (bF x) m))) (λm=>some (true,m)) m a
  (λk i m x b c=>by
   have d:=e x (qS b);simp only [zD,yC,yB c,zO,yK b,zA,fH c a,bitsAt_l d];rw [take_runP o _ _ _ (by unfold bF;rw [List.length_map,List.length_range];have:=d.2.2.2;omega)]
   cases(tkP o (bF x) m).1<;>rfl)
  (λk m=>by simp only [zD,yE,zL])]
 have: ∀(l:List fE) (i:Nat) (m:List (gX×Int)),aO (λ_ x m=>if (tkP o (bF x) m).1=true then .inl (tkP o (bF x) m).2 else .inr (some (tkP o (bF x) m))) (λm=>some (true,m)) l i m=some (tkP o (l.flatMap bF) m):=by
  intro l
  induction l with
  |nil=>intro i m;rfl
  |cons x l f=>
   intro i m;rw [aO,List.flatMap_cons,aLn]
   by_cases h:(tkP o (bF x) m).1=true
   ·rw [if_pos h,if_pos h];exact f (i+1) _
   ·rw [if_neg h,if_neg h]
 exact this l 0 m
def aIx (b:gX):Arr 3 Int:=⟨[b.frame,b.word,b.bit],rfl⟩
def tkR:List gX->Bool×List (Arr 3 Int×Bool)->Bool×List (Arr 3 Int×Bool)
 | [],s=>s
 |b::l,s=>tkR l (s.1&& !aX s.2 (aIx b) false,pU s.2 (aIx b) true)
theorem aGf: ∀(l l':List gX) (s:Bool×List (Arr 3 Int×Bool)),tkR (l++l') s=tkR l' (tkR l s)
 | [],_,_=>rfl
 |b::l,l',s=>by rw [List.cons_append,tkR,tkR];exact aGf l l' _
theorem aGq: ∀(l:List gX) (b:Bool) (m:List (Arr 3 Int×Bool)),(tkR l (b,m)).1=(b&&(tkR l (true,m)).1)/\(tkR l (b,m)).2=(tkR l (true,m)).2
 | [],b,m=>by simp [tkR]
 |x::l,b,m=>by
  rw [tkR,tkR];have a:=aGq l (b&& !aX m (aIx x) false) (pU m (aIx x) true);have c:=aGq l (true&& !aX m (aIx x) false) (pU m (aIx x) true);refine⟨?_,a.2.trans c.2.symm⟩;rw [a.1,c.1,Bool.true_and,Bool.and_assoc]
theorem take_2a {x:fE} (a:OkP x) (b:Bool) (m:List (Arr 3 Int×Bool)):Feu x (b,x.Low,m)=some (tkR (bF x) (b,m)):=by
 obtain⟨_,_,_,_⟩:=a;unfold Feu;have e:bF x=(List.range x.Bits.toNat).map λ(i:Nat)=>gX.mk x.Frame x.Word (x.Low+(i:Int)):=rfl;rw [yP (r:=some (tkR (bF x) (b,m))) (λi=>((tkR ((List.range i).map λ(i:Nat)=>gX.mk x.Frame x.Word (x.Low+(i:Int))) (b,m)).1,x.Low+(i:Int),(tkR ((List.range i).map λ(i:Nat)=>gX.mk x.Frame x.Word (x.Low+(i:Int))) (b,m)).2)) x.Bits.toNat (by omega)];show(b,x.Low,m)=(b,x.Low+((0:Nat):Int),m);rw [Int.natCast_zero,Int.add_zero];intro k i _;simp only [zD];rw [Go.OB.wrap_i64 (by omega: -9223372036854775808<=x.Low+x.Bits) (by omega),dT (by omega:x.Low+(i:Int)<x.Low+x.Bits),zO,dM,zA,Go.OB.wrap_i64 (by omega) (by omega),List.range_succ,List.map_append,List.map_singleton,aGf];have:x.Low+(i:Int)+1=x.Low+((i+1:Nat):Int):=by omega
 rw [this];rfl;intro k;simp only [zD];rw [Go.OB.wrap_i64 (by omega: -9223372036854775808<=x.Low+x.Bits) (by omega),qD (by omega: ¬x.Low+(x.Bits.toNat:Int)<x.Low+x.Bits),zL];rfl
theorem take_2 (l:List fE) (m:List (Arr 3 Int×Bool)) (a:l.length<=9223372036854775807) (c: ∀x∈l,OkP x):Fem m l=some (tkR (l.flatMap bF) (true,m)):=by
 unfold Fem Fh2;rw [zD];rw [yP (r:=some (tkR (l.flatMap bF) (true,m))) (λi=>((tkR ((l.take i).flatMap bF) (true,m)).1,(i:Int),(tkR ((l.take i).flatMap bF) (true,m)).2)) l.length a];rfl;rfl;intro k i hi;have b:l[i]? =some l[i]:=gE hi;simp only [zD,yB hi,zO,yK b,zA];rw [take_2a (c _ (List.getElem_mem hi)),zA,fH hi a,bU b,List.flatMap_append,List.flatMap_singleton,aGf];intro k;simp only [zD,yE,zL,List.take_length]
theorem aKu (l:List Cell) (m:List (Arr 3 Int×Bool)) (a:l.length<=9223372036854775807) (e: ∀c∈l,c.Places.length<=9223372036854775807/\ ∀x∈c.Places,OkP x):Fcz m l=some (tkR (l.flatMap λc=>c.Places.flatMap bF) (true,m)):=by
 unfold Fcz Fif;rw [zD];rw [yP (r:=some (tkR (l.flatMap λc=>c.Places.flatMap bF) (true,m))) (λi=>((tkR ((l.take i).flatMap λc=>c.Places.flatMap bF) (true,m)).1,(i:Int),(tkR ((l.take i).flatMap λc=>c.Places.flatMap bF) (true,m)).2)) l.length a];rfl;rfl;intro k i hi;have b:l[i]? =some l[i]:=gE hi;have d:=e _ (List.getElem_mem hi);simp only [zD,yB hi,zO,yK b,zA];rw [take_2 _ _ d.1 d.2,zA,fH hi a,bU b,List.flatMap_append,List.flatMap_singleton,aGf];generalize tkR ((l.take i).flatMap λc=>c.Places.flatMap bF) (true,m)=s;have:=aGq (l[i].Places.flatMap bF) s.1 s.2;have f:tkR (l[i].Places.flatMap bF) s=((s.1&&(tkR (l[i].Places.flatMap bF) (true,s.2)).1),(tkR (l[i].Places.flatMap bF) (true,s.2)).2):=Prod.ext this.1 this.2;rw [f];generalize tkR (l[i].Places.flatMap bF) (true,s.2)=q;obtain⟨g,_⟩:=q;obtain⟨s1,_⟩:=s;cases g<;>cases s1<;>rfl;intro k;simp only [zD,yE,zL,List.take_length]
def relB (m:List (gX×Int))(m':List (Arr 3 Int×Bool)):Prop:= ∀b,aBa m b=aX m' (aIx b) false
theorem aPs {a b:gX}:aIx a=aIx b↔a=b:=by
 constructor
 ·intro h;have:=congrArg Arr.l h;simp only [aIx,List.cons.injEq,and_true]at this
  cases a;cases b
  simp_all
 ·intro h;rw [h]
theorem aQw (o:Int): ∀(l:List gX) (m:List (gX×Int)) (m':List (Arr 3 Int×Bool)),relB m m'->(tkP o l m).1=(tkR l (true,m')).1/\((tkP o l m).1=true->relB (tkP o l m).2 (tkR l (true,m')).2)
 | [],m,m',h=>⟨rfl,λ_=>h⟩
 |b::l,m,m',h=>by
  rw [tkP,tkR,<-h b]
  cases hb:aBa m b with
  |true=>
   rw [if_pos rfl];refine⟨?_,λc=>by cases c⟩;rw [(aGq l _ _).1];rfl
  |false=>
   rw [if_neg (by decide)];refine aQw o l _ _ λc=>?_
   rw [aOg,aIg,h c]
   by_cases e:b=c
   ·rw [if_pos (aPs.2 e),dT e,Bool.true_or]
   ·rw [if_neg (λq=>e (aPs.1 q)),qD e,Bool.false_or]
structure SzP (p:Param):Prop where
 nm:p.Name.length<=9223372036854775807
 pl:p.Parts.length<=9223372036854775807
 nl:p.Names.length<=9223372036854775807
 ns: ∀s∈p.Names,s.length<=9223372036854775807
def dR (c:Cell):List gX:=c.Places.flatMap bF
def nV (p:Param):Int:=if tH p.Name=false then 8 else if dC p.Kind 1 6=true then 7 else if pfM p≠0 then pfM p else if tfM p≠0 then tfM p else if kfM p≠0 then kfM p else if (tkP 0 ((gK p 0).flatMap dR) []).1=false then 5 else if (gK p 0).length=0 then 13 else 0
structure pM (p:Param):Prop where
 nm:tH p.Name=true
 kd:dC p.Kind 1 6=false
 pt:nY p
 tm:dW p
 pf:pfM p=0
 tf:tfM p=0
 kf:kfM p=0
 cl:(gK p 0).length≠0
 ck:nV p=0
theorem tf_ok {p:Param} (h:tfM p=0):dW p:=by
 unfold tfM at h;split at h;cases h;rename_i a;exact aLo (by simpa using a)
theorem qE {p:Param}(h:nV p=0):pM p:=by
 have a:=h;unfold nV at h;split at h;cases h;rename_i f;split at h;cases h;rename_i g;split at h;rename_i c;exact absurd h c;rename_i b;split at h;rename_i c;exact absurd h c;rename_i d;split at h;rename_i c;exact absurd h c;rename_i e;split at h;cases h;split at h;cases h;rename_i i;have b:pfM p=0:=by omega
 have d:tfM p=0:=by omega
 have e:kfM p=0:=by omega
 exact⟨by simpa using f,by simpa using g,aJq b,tf_ok d,b,d,e,i,a⟩
theorem aTd {p:Param}{a s:Int}{b n:Nat}{c:Cell}(h:c∈aB p a s b n): ∃t,t<n/\c=Cell.mk a ((b+t:Nat):Int) s (dI p s t):=by
 unfold aB at h;obtain⟨t,d,rfl⟩:=List.mem_map.1 h;exact⟨t,List.mem_range.1 d,rfl⟩
theorem aBm {p:Param}{a:Int}{l:List Int}{c:Cell} (h:c∈cellsS p a l): ∃s t i,s∈l/\t<p.Times.toNat/\c=Cell.mk a i s (dI p s (t:Nat)):=by
 have: ∀(l:List Int) (cs:List Cell),c∈l.foldl (λcs s=>cs++aB p a s cs.length p.Times.toNat) cs->c∈cs\/ ∃s t i,s∈l/\t<p.Times.toNat/\c=Cell.mk a i s (dI p s (t:Nat)):=by
  intro l
  induction l with
  |nil=>intro cs h;exact .inl h
  |cons s l b=>
   intro cs h;rw [List.foldl_cons]at h;rcases b _ h with h|⟨d,t,i,f,g,j⟩
   ·rcases mA.1 h with h|h
    ·exact .inl h
    ·obtain⟨t,k,e⟩:=aTd h;exact .inr ⟨s,t,_,List.mem_cons_self ..,k,e⟩
   ·exact .inr ⟨d,t,i,List.mem_cons_of_mem _ f,g,j⟩
 rcases this l [] h with h|h
 ·cases h
 ·exact h
theorem places_ok {p:Param}(a:nY p){s t:Int}{x:fE}(h:x∈dI p s t):OkP x:=by
 unfold dI at h;obtain⟨y,b,rfl⟩:=List.mem_map.1 h;have:=aHq (a.all y b);unfold OkP uH;simp only;omega
theorem aGe {p:Param}(a:nY p){b:Int}{c:Cell}(h:c∈gK p b):c.Places.length<=9223372036854775807/\ ∀x∈c.Places,OkP x:=by
 obtain⟨s,t,_,_,_,rfl⟩:=aBm h;refine⟨?_,λx d=>places_ok a d⟩;show(dI p s t).length<=_;unfold dI;rw [List.length_map];have:=a.n8;omega
theorem bG {p:Param}(a:dW p)(b:Int):(gK p b).length<=912:=aEq a b _ (aJl a)
theorem wG (p:Param)(a:Int):(gK p a).flatMap dR=(gK p 0).flatMap dR/\(gK p a).length=(gK p 0).length:=by
 refine⟨?_,by unfold gK;rw [vT,vT]⟩;have: ∀(l:List Int) (cs cs':List Cell),cs.flatMap dR=cs'.flatMap dR->(l.foldl (λcs s=>cs++aB p a s cs.length p.Times.toNat) cs).flatMap dR=(l.foldl (λcs s=>cs++aB p 0 s cs.length p.Times.toNat) cs').flatMap dR:=by
  intro l
  induction l with
  |nil=>intro cs cs' h;exact h
  |cons s l b=>
   intro cs cs' h;rw [List.foldl_cons,List.foldl_cons];refine b _ _ ?_;rw [List.flatMap_append,List.flatMap_append,h]
   congr 1
   unfold aB;rw [List.flatMap_map,List.flatMap_map];rfl
 exact this (dE p) [] [] rfl
theorem aNi {a:Type}(o:Int)(r:Option a)(fin:List (gX×Int)->Option a): ∀(l:List Cell) (i:Nat) (m:List (gX×Int)),aO (λ_ c m=>if (tkP o (dR c) m).1=true then .inl (tkP o (dR c) m).2 else .inr r) fin l i m=if (tkP o (l.flatMap dR) m).1=true then fin (tkP o (l.flatMap dR) m).2 else r
 | [],i,m=>rfl
 |c::l,i,m=>by
  rw [aO,List.flatMap_cons,aLn]
  by_cases h:(tkP o (dR c) m).1=true
  ·rw [if_pos h,if_pos h];exact aNi o r fin l (i+1) _
  ·rw [if_neg h,if_neg h,if_neg h]
theorem par_l {p:Param} (e:SzP p):Fcw p=some (nV p):=by
 unfold Fcw nV;simp only [aQa,lwi,zA,zD,yC,nwi,pf_l p e.pl]
 cases tH p.Name with
 |false=>rfl
 |true=>
  simp only [Bool.not_true,zL,Bool.true_eq_false,if_false];show gI (dC p.Kind 1 6) _ _=_
  cases dC p.Kind 1 6 with
  |true=>rfl
  |false=>
   simp only [zL,Bool.false_eq_true,if_false,yN]
   by_cases d:pfM p=0
   ·simp only [d,if_true,ne_eq,not_true,if_false]
    by_cases f:tfM p=0
    ·simp only [f,not_true,if_false];rw [kf_l p e.pl e.nl (aJq d),zA]
     by_cases g:kfM p=0
     ·simp only [g,not_true,if_false];have h:=aJq d;have j:=tf_ok f;have a:(gK p 0).length<=9223372036854775807:=Nat.le_trans (bG j 0) (by decide);rw [aNc h j,zA];unfold Fia;rw [uS (gK p 0) (λ_ c m=>if (tkP 0 (dR c) m).1=true then .inl (tkP 0 (dR c) m).2 else .inr (some 5)) (λ_=>if ((gK p 0).length:Int)=0 then some 13 else some 0) [] a
       (λk _ m c l n=>by
        have o:=aGe h (qS l);simp only [zD,yB n,zO,yK l,zA,fH n a,take_l 0 c.Places m o.1 o.2];show gI (!(tkP 0 (dR c) m).1) _ (k (_,(tkP 0 (dR c) m).2))=_;rcases tkP 0 (dR c) m with ⟨b,_⟩
        cases b<;>rfl)
       (λk m=>by simp only [zD,yE,zL]),aNi]
      cases(tkP 0 ((gK p 0).flatMap dR) []).1 with
      |false=>rfl
      |true=>
       simp only [if_true,Bool.true_eq_false,if_false]
       by_cases c:(gK p 0).length=0
       ·rw [if_pos c,if_pos (by omega)]
       ·rw [if_neg c,if_neg (by omega)]
     ·simp only [g,not_false_eq_true,if_true]
    ·simp only [f,not_false_eq_true,if_true]
   ·simp only [d,if_false,ne_eq,not_false_eq_true,if_true]
theorem par_2 {p:Param} (a:SzP p):Fcu p=some (nV p):=by
 unfold Fcu nV;simp only [aQb p.Name a.nm,out2,zA,zD,pf_2 p a.pl]
 cases tH p.Name with
 |false=>rfl
 |true=>
  simp only [Bool.not_true,zL,Bool.true_eq_false,if_false];show gI (dC p.Kind 1 6) _ _=_
  cases dC p.Kind 1 6 with
  |true=>rfl
  |false=>
   simp only [zL,Bool.false_eq_true,if_false,yN]
   by_cases d:pfM p=0
   ·simp only [d,ne_eq,not_true,if_false];rw [tf_2 p a.pl (aJq d).all,zA]
    by_cases f:tfM p=0
    ·simp only [f,not_true,if_false];rw [kf_2 p a.pl a.nl a.ns (aJq d),zA]
     by_cases h:kfM p=0
     ·simp only [h,not_true,if_false];have i:=aJq d;have j:=tf_ok f;have g:(gK p 0).length<=9223372036854775807:=Nat.le_trans (bG j 0) (by decide);rw [aFz i j,zA,aKu _ _ g (λc k=>aGe i k),zA];have l:=aQw 0 ((gK p 0).flatMap dR) [] [] (λ_=>rfl);have e:(tkR ((gK p 0).flatMap λc=>c.Places.flatMap bF) (true,[])).1=(tkP 0 ((gK p 0).flatMap dR) []).1:=l.1.symm;simp only [e]
      cases(tkP 0 ((gK p 0).flatMap dR) []).1 with
      |false=>rfl
      |true=>
       simp only [Bool.not_true,zL,Bool.true_eq_false,if_false]
       by_cases c:(gK p 0).length=0
       ·rw [if_pos c,if_pos (by omega)]
       ·rw [if_neg c,if_neg (by omega)]
     ·simp only [h,not_false_eq_true,if_true]
    ·simp only [f,not_false_eq_true,if_true]
   ·simp only [d,ne_eq,not_false_eq_true,if_true]
structure SzM (m:Map):Prop where
 pl:m.Params.length<=9223372036854775807
 ps: ∀p∈m.Params,SzP p
theorem bV {c e:Type} (q:Nat->c->Option (Option e)): ∀(l:List c) (i:Nat),
  (∃j x v,l[j]? =some x/\q (i+j) x=some v/\ ∀fin,eU q fin l i=v)\/((∀j x,l[j]? =some x->q (i+j) x=none)/\ ∀fin,eU q fin l i=fin)
 | [],i=> .inr ⟨λj x h=>by simp at h,λ_=>rfl⟩
 |x::l,i=>by
  cases h:q i x with
  |some v=>exact .inl ⟨0,x,v,rfl,h,λfin=>by rw [eU,h]⟩
  |none=>
   rcases bV q l (i+1)with ⟨j,y,v,a,d,f⟩|⟨a,d⟩
   ·refine .inl ⟨j+1,y,v,by simpa using a,by rwa [show i+(j+1)=i+1+j by omega],λfin=>?_⟩;rw [eU,h];exact f fin
   ·refine .inr ⟨λj y b=>?_,λfin=>?_⟩
    ·cases j with
     |zero=>simp at b;subst b;exact h
     |succ j=>have:=a j y (by simpa using b);rwa [show i+(j+1)=i+1+j by omega]
    ·rw [eU,h];exact d fin
def aMc (l:List Param):Nat->Param->Option (Option (Int×Int)):=λi x=>if nV x=0 then(if (l.take i).any (λy=>decide (y.Name=x.Name))=true then some (some ((i:Int),5))else none)else some (some ((i:Int),nV x))
def cntF:Nat->Param->Int->Int ⊕ Option (Int×Int):=λi x s=>if 4000<IntKind.i64.wrap (s+(gK x 0).length)then .inr (some ((i:Int),3))else .inl (IntKind.i64.wrap (s+(gK x 0).length))
def tkF:Nat->Param->List (gX×Int)->List (gX×Int) ⊕ Option (Int×Int):=λi x m=>if (tkP (i:Int) ((gK x 0).flatMap dR) m).1=true then .inl (tkP (i:Int) ((gK x 0).flatMap dR) m).2 else .inr (some ((i:Int),5))
def tkG:Nat->Param->List (Arr 3 Int×Bool)->List (Arr 3 Int×Bool) ⊕ Option (Int×Int):=λi x m=>if (tkR ((gK x 0).flatMap dR) (true,m)).1=true then .inl (tkR ((gK x 0).flatMap dR) (true,m)).2 else .inr (some ((i:Int),5))
theorem chkL1 (m:Map) (a:SzM m) (r:Option (Int×Int)):Ff0 m (λ_=>r) (m.Params.length:Int) 0=eU (aMc m.Params) r m.Params 0:=by
 unfold Ff0;refine xG m.Params _ _ a.pl (λk i x b d=>?_) (λk=>by simp only [zD,yE,zL]);have e:=a.ps x (qS b);simp only [zD,yB d,zO,yK b,zA,fH d a.pl,par_l e,aAk m.Params (by omega:i<=m.Params.length)];rw [contM_eq _ _ (by rw [List.length_take];have:=a.pl;omega),zA,yN];unfold aMc;by_cases c:nV x=0;rw [if_neg (by simpa using c),if_pos c];cases((m.Params.take i).any λy=>decide (y.Name=x.Name))<;>rfl;rw [if_pos c,if_neg c]
theorem chkR1 (m:Map) (b:SzM m) (r:Option (Int×Int)):Ffb m (λ_=>r) (m.Params.length:Int) 0=eU (aMc m.Params) r m.Params 0:=by
 unfold Ffb;refine xG m.Params _ _ b.pl (λk i x d e=>?_) (λk=>by simp only [zD,yE,zL]);have f:=b.ps x (qS d);simp only [zD,yC,yB e,zO,yK d,zA,fH e b.pl,par_2 f,aAk m.Params (by omega:i<=m.Params.length)];have a:(m.Params.take i).length<=9223372036854775807:=by rw [List.length_take];have:=b.pl;omega
 unfold Fhh;rw [jJ (m.Params.take i) (λy=>decide (y.Name=x.Name)) (some ((i:Int),5)) (k ((i+1:Nat):Int)) a (λg _ y g1 g2=>by simp only [zD,yB g2,zO,yK g1,zA,fH g2 a]) (λg=>by simp only [zD,yE,zL]),yN];unfold aMc;by_cases c:nV x=0;rw [if_neg (by simpa using c),if_pos c];cases((m.Params.take i).any λy=>decide (y.Name=x.Name))<;>rfl;rw [if_pos c,if_neg c]
theorem chkL2 (m:Map)(a:SzM m)(h: ∀p∈m.Params,pM p)(r:Option (Int×Int)):Fdj m (λ_=>r) (m.Params.length:Int) (0,0)=aO cntF (λ_=>r) m.Params 0 0:=by
 unfold Fdj;refine aJo m.Params cntF (λ_=>r) 0 a.pl (λk _ s x b f=>?_) (λk s=>by simp only [zD,yE,zL]);have d:=h x (qS b);have hm:=a.ps x (qS b);have g:=bG d.tm 0;have j:(gK x 0).length=(dE x).length*x.Times.toNat:=vT ..;have l:=d.tm.t1;have e:((dE x).length:Int)*x.Times=((gK x 0).length:Int):=by
  rw [j,Int.natCast_mul]
  congr 1
  omega
 simp only [zD,yB f,zO,yK b,zA,fH f a.pl,aOj d.tm hm.pl,e,Go.OB.wrap_i64 (by omega: -9223372036854775808<=((gK x 0).length:Int)) (by omega),yN];unfold cntF
 by_cases c:4000<IntKind.i64.wrap (s+(gK x 0).length)
 ·rw [if_pos c,if_pos c]
 ·rw [if_neg c,if_neg c]
theorem chkR3 (m:Map)(a:SzM m)(f: ∀p∈m.Params,pM p)(r:Option (Int×Int)):Fen m (λ_=>r) (m.Params.length:Int) (0,0)=aO cntF (λ_=>r) m.Params 0 0:=by
 unfold Fen;refine aJo m.Params cntF (λ_=>r) 0 a.pl (λk i s x b d=>?_) (λk s=>by simp only [zD,yE,zL]);have e:=f x (qS b);simp only [zD,yB d,zO,yK b,zA,fH d a.pl,aFz e.pt e.tm,(wG x (i:Int)).2,yN];unfold cntF;by_cases c:4000<IntKind.i64.wrap (s+(gK x 0).length);rw [if_pos c,if_pos c];rw [if_neg c,if_neg c]
theorem chkL3 (m:Map)(e:SzM m)(j: ∀p∈m.Params,pM p)(r:Option (Int×Int)):Fdz m (λ_=>r) (m.Params.length:Int) (0,[])=aO tkF (λ_=>r) m.Params 0 []:=by
 unfold Fdz;refine uS m.Params tkF (λ_=>r) [] e.pl (λk i s x f g=>?_) (λk s=>by simp only [zD,yE,zL]);have d:=j x (qS f);have a:(gK x (i:Int)).length<=9223372036854775807:=Nat.le_trans (bG d.tm _) (by decide);simp only [zD,yC,yB g,zO,yK f,zA,fH g e.pl,aNc d.pt d.tm];unfold Fha;rw [uS (gK x (i:Int)) (λ_ c m=>if (tkP (i:Int) (dR c) m).1=true then .inl (tkP (i:Int) (dR c) m).2 else .inr (some ((i:Int),5))) (λm=>k (((i+1:Nat):Int),m)) s a
  (λk _ m c g1 g2=>by
   have h:=aGe d.pt (qS g1);simp only [zD,yB g2,zO,yK g1,zA,fH g2 a,take_l _ c.Places m h.1 h.2];show gI (!(tkP (i:Int) (dR c) m).1) _ (k (_,(tkP (i:Int) (dR c) m).2))=_;rcases tkP (i:Int) (dR c) m with ⟨b,_⟩
   cases b<;>rfl)
  (λk m=>by simp only [zD,yE,zL]),aNi,(wG x (i:Int)).1]
 unfold tkF
 by_cases c:(tkP (i:Int) ((gK x 0).flatMap dR) s).1=true
 ·rw [if_pos c,if_pos c]
 ·rw [if_neg c,if_neg c]
theorem chkR4 (m:Map)(f:SzM m)(j: ∀p∈m.Params,pM p)(r:Option (Int×Int)):Fdw m (λ_=>r) (m.Params.length:Int) (0,[])=aO tkG (λ_=>r) m.Params 0 []:=by
 unfold Fdw;refine uS m.Params tkG (λ_=>r) [] f.pl (λk i s x g h=>?_) (λk s=>by simp only [zD,yE,zL]);have a:=j x (qS g);have d:(gK x (i:Int)).length<=9223372036854775807:=Nat.le_trans (bG a.tm _) (by decide);simp only [zD,yB h,zO,yK g,zA,fH h f.pl,aFz a.pt a.tm,aKu _ _ d (λc l=>aGe a.pt l)];have e:((gK x (i:Int)).flatMap λc=>c.Places.flatMap bF)=(gK x 0).flatMap dR:=(wG x (i:Int)).1;rw [e];unfold tkG;rcases tkR ((gK x 0).flatMap dR) (true,s)with ⟨b,_⟩
 cases b<;>rfl
theorem tk_two: ∀(l:List Param) (i:Nat) (m:List (gX×Int)) (m':List (Arr 3 Int×Bool)),relB m m'->
  (∃v:Int×Int,v.2≠0/\0<=v.1/\ ∀r a,aO tkF (λ_=>r) l i m=some v/\aO tkG (λ_=>a) l i m'=some v)\/ ∀r a,aO tkF (λ_=>r) l i m=r/\aO tkG (λ_=>a) l i m'=a
 | [],i,m,m',_=> .inr λr a=>⟨rfl,rfl⟩
 |x::l,i,m,m',h=>by
  have c:=aQw (i:Int) ((gK x 0).flatMap dR) m m' h
  cases hb:(tkP (i:Int) ((gK x 0).flatMap dR) m).1 with
  |false=>
   refine .inl ⟨((i:Int),5),(by show(5:Int)≠0;decide),by omega,λr a=>⟨?_,?_⟩⟩
   ·rw [aO,tkF,if_neg (by rw [hb];decide)]
   ·rw [aO,tkG,if_neg (by rw [<-c.1,hb];decide)]
  |true=>
   rcases tk_two l (i+1) _ _ (c.2 hb)with ⟨v,d,e,b⟩|b
   ·refine .inl ⟨v,d,e,λr a=>⟨?_,?_⟩⟩
    ·rw [aO,tkF,if_pos hb];exact(b r a).1
    ·rw [aO,tkG,if_pos (by rw [<-c.1,hb])];exact(b r a).2
   ·refine .inr λr a=>⟨?_,?_⟩
    ·rw [aO,tkF,if_pos hb];exact(b r a).1
    ·rw [aO,tkG,if_pos (by rw [<-c.1,hb])];exact(b r a).2
theorem aVj: ∀(l:List Param) (i:Nat) (s:Int),0<=s->s<=4000->(∀p∈l,(gK p 0).length<=912)->
  (∃v:Int×Int,v.2≠0/\0<=v.1/\ ∀r,aO cntF (λ_=>r) l i s=some v)\/((∀r,aO cntF (λ_=>r) l i s=r)/\s+((l.map λp=>(gK p 0).length).sum:Nat)<=4000)
 | [],i,s,_,h,_=> .inr ⟨λr=>rfl,by simpa using h⟩
 |x::l,i,s,j,h,d=>by
  have k:=d x (List.mem_cons_self ..);have a:IntKind.i64.wrap (s+(gK x 0).length)=s+(gK x 0).length:=Go.OB.wrap_i64 (by omega) (by omega)
  by_cases c:4000<s+(gK x 0).length
  ·refine .inl ⟨((i:Int),3),(by show(3:Int)≠0;decide),by omega,λr=>?_⟩;rw [aO,cntF,a,if_pos c]
  ·rcases aVj l (i+1) (s+(gK x 0).length) (by omega) (by omega) (λp e=>d p (List.mem_cons_of_mem _ e))with ⟨v,f,g,b⟩|⟨b,_⟩
   ·refine .inl ⟨v,f,g,λr=>?_⟩;rw [aO,cntF,a,if_neg c];exact b r
   ·refine .inr ⟨λr=>?_,?_⟩
    ·rw [aO,cntF,a,if_neg c];exact b r
    ·rw [List.map_cons,List.sum_cons];omega
structure MapOk (m:Map):Prop where
 n:m.Params.length<=200
 v0:0<=m.Version
 v1:m.Version<=2047
 all: ∀p∈m.Params,pM p
 names: ∀(j:Nat) (x:Param),m.Params[j]? =some x->(m.Params.take j).any (λy=>decide (y.Name=x.Name))=false
 cnt:(m.Params.map λp=>(gK p 0).length).sum<=4000
theorem map_two {m:Map} (d:SzM m): ∃v:Int×Int,Fai m=some v/\Fao m=some v/\(v.2=0->v.1=0/\MapOk m):=by
 unfold Fai Fay Fao;simp only [lwi,out2,zA,zD,yC,nwi];show ∃v:Int×Int,(gB (gI (dC m.Version 0 2047) _ _) _=_/\gI (dC m.Version 0 2047) _ _=_/\_)
 cases hv:dC m.Version 0 2047 with
 |true=>exact⟨(0,9),rfl,rfl,λh=>by cases h⟩
 |false=>
  rw [zL,zL,yN,yN]
  by_cases c2:200<m.Params.length
  ·rw [if_pos (by omega),if_pos (by omega)];exact⟨(0,3),rfl,rfl,λh=>by cases h⟩
  rw [if_neg (by omega),if_neg (by omega),chkL1 m d,chkR1 m d];rcases bV (aMc m.Params) m.Params 0 with ⟨j,x,v,n,e,f⟩|⟨n,f⟩
  ·rw [f,f];unfold aMc at e;split at e
   ·split at e
    ·cases e
     refine⟨(((0+j:Nat):Int),5),?_,rfl,λh=>by cases h⟩;rw [zA,Int.max_eq_left (by omega)]
    ·cases e
   ·rename_i c
    cases e
    refine⟨(((0+j:Nat):Int),nV x),?_,rfl,λh=>absurd h c⟩;rw [zA,Int.max_eq_left (by omega)]
  rw [f,f];have g: ∀(j:Nat) (x:Param),m.Params[j]? =some x->nV x=0/\(m.Params.take j).any (λy=>decide (y.Name=x.Name))=false:=by
   intro j x i;have:=n j x i;unfold aMc at this;split at this
   ·rename_i c;rw [Nat.zero_add]at this;split at this
    ·cases this
    ·rename_i o;exact⟨c,by simpa using o⟩
   ·cases this
  have a: ∀p∈m.Params,pM p:=by
   intro p l;obtain⟨j,i,rfl⟩:=List.mem_iff_getElem.1 l;exact qE (g j _ (gE i)).1
  rw [chkL2 m d a,chkR3 m d a];rcases aVj m.Params 0 0 (by omega) (by omega) (λp l=>bG (a p l).tm 0)with ⟨v,g1,g2,g3⟩|⟨g3,g4⟩
  ·rw [g3,g3];refine⟨v,?_,rfl,λh=>absurd h g1⟩;rw [zA];show some (max v.1 0,v.2)=_;rw [Int.max_eq_left g2]
  rw [g3,g3,chkL3 m d a,chkR4 m d a];rcases tk_two m.Params 0 [] [] (λ_=>rfl)with ⟨v,g1,g2,g5⟩|g5
  ·rw [(g5 _ none).1,(g5 none _).2];refine⟨v,?_,rfl,λh=>absurd h g1⟩;rw [zA];show some (max v.1 0,v.2)=_;rw [Int.max_eq_left g2]
  ·rw [(g5 _ none).1,(g5 none _).2];have k:=tZ.1 hv;exact⟨(0,0),rfl,rfl,λ_=>⟨rfl,by omega,k.1,k.2,a,λj x i=>(g j x i).2,by omega⟩⟩
def kws:List Str:=[[112,104,97,115,101],[109,111,118,101],[114,117,108,101],[105,102],[111,114],[97,110,100],[116,114,117,101],[102,97,108,115,101],[115,116,101,97,100,121],[110,111,116],[102,111,114],[119,105,116,104,105,110],[99,111,117,110,116],[111,102],[114,105,115,101,115],[115,105,110,99,101]]
theorem ewithin (a b c:Int):Fal a b c=some (decide (b<=a)&&decide (a<=c)):=by
 unfold Fal;simp only [zD,dM,zA]
def isW (s:Str):Bool:=decide (s∈kws)
theorem isWord_eq (s:Str):Fa5 s=some (isW s):=by
 unfold Fa5 isW kws;simp only [zD,aTj,zA,iteB_id,List.mem_cons,List.not_mem_nil,or_false,Bool.decide_or]
def nmB (c:Int):Bool:=(decide (97<=c)&&decide (c<=122))||(decide (48<=c)&&decide (c<=57))||decide (c=45)
theorem aPv (c:Int):Fbm c=some (nmB c):=by
 unfold Fbm nmB;simp only [zD];cases decide (97<=c)<;>cases decide (c<=122)<;>cases decide (48<=c)<;>cases decide (c<=57)<;>cases decide (c=45)<;>rfl
def aIv:Nat->UInt8->Bool:=λ_ c=> !nmB (c.toNat:Int)
theorem isName_L1 (s:Str) (a:okS s) (k:Unit->Option Bool):Fd2 s k (s.length:Int) 0=if pV aIv s 0=true then some false else k ():=by
 unfold Fd2;rw [xG s (λi c=>if aIv i c=true then some (some false)else none) (k ()) a];exact rJ aIv (some false) (k ()) s 0;intro b i c d hi;unfold aIv;simp only [zD];rw [yB hi,zO,wZ d,zA,aPv,zA];cases nmB (c.toNat:Int);rfl;simp only [Bool.not_true,zL];rw [fH hi a];rfl;intro b;simp only [zD];rw [yE];rfl
def aCk (s:Str):Bool:=match s with
 | []=>false
 |c::_=>decide (97<=(c.toNat:Int))&&decide ((c.toNat:Int)<=122)
def aEf (s:Str):Bool:=decide (s.length<=30)&&aCk s&& !isW s&& !pV aIv s 0
theorem isName_eq (s:Str)(a:okS s):Fag s=some (aEf s):=by
 unfold Fag aEf;simp only [zD,zA,ewithin,yC,isName_L1 s a,isWord_eq]
 cases s with
 |nil=>rfl
 |cons c l=>
  have b:byte' (c::l) 0=some (c.toNat:Int):=wZ (i:=0) rfl;have d:decide ((1:Int)<=((c::l).length:Int))=true:=dT (by simp;omega);have e:decide (((c::l).length:Int)<=30)=decide ((c::l).length<=30):=decide_eq_decide.2 (by omega);have f:decide ((c.toNat:Int)<97)= !decide (97<=(c.toNat:Int)):=by rw [<-decide_not];exact decide_eq_decide.2 (by omega)
  have g:decide (122<(c.toNat:Int))= !decide ((c.toNat:Int)<=122):=by rw [<-decide_not];exact decide_eq_decide.2 (by omega)
  rw [b,d,e];simp only [zA,Bool.true_and,f,g,aCk]
  cases decide ((c::l).length<=30)<;>cases decide (97<=(c.toNat:Int))<;>cases decide ((c.toNat:Int)<=122)<;>cases isW (c::l)<;>cases pV aIv (c::l) 0<;>rfl
theorem IsName_eq (s:Str)(a:okS s):Fch s=some (aEf s):=by
 unfold Fch;rw [isName_eq s a];rfl
theorem aPp (s:Str):Fcc s=some (isW s):=by
 unfold Fcc Fep;simp only [zD,zA,yC];change Ffr s kws (λ_=>some false) 0=_;unfold Ffr;rw [xG kws (λ_ x=>if decide (x=s)=true then some (some true)else none) (some false) (by decide)]
 ·rw [rJ (λ_ x=>decide (x=s))];have e:pV (λ_ x=>decide (x=s)) kws 0=isW s:=by
   rw [Bool.eq_iff_iff,aOo];unfold isW;simp only [decide_eq_true_eq];constructor
   ·rintro⟨j,x,h,rfl⟩;exact qS h
   ·intro h;obtain⟨j,a⟩:=List.getElem?_of_mem h;exact⟨j,s,a,rfl⟩
  rw [e];cases isW s<;>rfl
 ·intro b _ c d hi;simp only [zD];rw [yB hi,zO,yK d,zA]
  cases decide (c=s)
  ·simp only [zL];rw [fH hi (by decide)];rfl
  ·rfl
 ·intro b;simp only [zD];rw [yE];rfl
def badR:Nat->UInt8->Bool:=λi c=> !((decide (97<=(c.toNat:Int))&&decide ((c.toNat:Int)<=122))||(decide (0<(i:Int))&&((decide (48<=(c.toNat:Int))&&decide ((c.toNat:Int)<=57))||decide ((c.toNat:Int)=45))))
theorem aSg (s:Str) (a:okS s) (k:Unit->Option Bool):Fd9 s k 0=if pV badR s 0=true then some false else k ():=by
 unfold Fd9;rw [xG s (λi c=>if badR i c=true then some (some false)else none) (k ()) a];exact rJ badR (some false) (k ()) s 0;intro b i c d hi;unfold badR;simp only [zD];rw [yB hi,zO,wZ d,zA];rw [fH hi a];cases decide (97<=(c.toNat:Int))<;>cases decide ((c.toNat:Int)<=122)<;>cases decide (0<(i:Int))<;>cases decide (48<=(c.toNat:Int))<;>cases decide ((c.toNat:Int)<=57)<;>cases decide ((c.toNat:Int)=45)<;>rfl;intro b;simp only [zD];rw [yE];rfl
theorem aHh (s:Str)(a:okS s):Fbc s=some (aEf s):=by
 unfold Fbc aEf;simp only [zD,zA,yC,aSg s a,aPp]
 cases s with
 |nil=>rfl
 |cons c l=>
  have b:decide (((c::l).length:Int)<=30)=decide ((c::l).length<=30):=decide_eq_decide.2 (by omega);have d:decide ((c::l)≠[])=true:=by simp
  have e:pV badR l (0+1)=pV aIv l (0+1):=aIa l (0+1) λj _ _=>by
   have:decide (0<((0+1+j:Nat):Int))=true:=dT (by omega);unfold badR aIv nmB;rw [this];simp only [Bool.true_and,Bool.or_assoc]
  rw [pV,pV,e,b,d];have f:badR 0 c= !(decide (97<=(c.toNat:Int))&&decide ((c.toNat:Int)<=122)):=by unfold badR;simp
  have g:aIv 0 c= !(aCk (c::l)||(decide (48<=(c.toNat:Int))&&decide ((c.toNat:Int)<=57))||decide ((c.toNat:Int)=45)):=rfl;have h:badR 0 c= !aCk (c::l):=f;rw [g,h]
  cases aCk (c::l)<;>cases pV aIv l (0+1)<;>cases decide ((c::l).length<=30)<;>cases isW (c::l)<;>simp [gI,gB]
end Go.Lf
