/- Laws that the claim stands on; no condition beyond those stated. -/
import Derived.Test.YtolnigkhnidkoacGreatDoorBKb
namespace Go.Lf
open Go.RowKit Go.OB Go.Fr1
theorem aGx {a:Type}{q:a->Bool}: ∀{l:List a}{i:Nat}{x:a},i<(l.takeWhile q).length->l[i]? =some x->q x=true
 | [],i,x,h,_=>by simp at h
 |z::l,i,x,h,b=>by
  rw [List.takeWhile_cons]at h
  by_cases c:q z=true
  ·rw [if_pos c]at h
   cases i with
   |zero=>simp at b;rw [<-b];exact c
   |succ i=>exact aGx (l:=l) (by simpa using h) (by simpa using b)
  ·rw [if_neg c]at h;simp at h
theorem aHh {b:Type}{q:b->Bool}: ∀{l:List b}{x:b},l[(l.takeWhile q).length]? =some x->q x=false
 | [],x,a=>by simp at a
 |z::l,x,a=>by
  rw [List.takeWhile_cons]at a
  by_cases c:q z=true
  ·rw [if_pos c]at a;exact aHh (l:=l) (by simpa using a)
  ·rw [if_neg c]at a;simp at a;rw [<-a];simpa using c
theorem aHo {a:Type}(q:a->Bool)(l:List a):(l.takeWhile q).length<=l.length:=(List.takeWhile_sublist _).length_le
theorem aCo {a:Type}(q:a->Bool): ∀l:List a,l.take (l.takeWhile q).length=l.takeWhile q/\l.drop (l.takeWhile q).length=l.dropWhile q
 | []=>⟨rfl,rfl⟩
 |z::l=>by
  have b:=aCo q l;rw [List.takeWhile_cons,List.dropWhile_cons]
  by_cases c:q z=true
  ·rw [if_pos c,if_pos c];exact⟨by rw [List.length_cons,List.take_succ_cons,b.1],by rw [List.length_cons,List.drop_succ_cons,b.2]⟩
  ·rw [if_neg c,if_neg c];exact⟨rfl,rfl⟩
theorem aUl {a:Type}{q:a->Bool}: ∀{l:List a}{x:a},x∈l->q x=false->x∈l.dropWhile q
 |z::l,x,h,b=>by
  rw [List.dropWhile_cons]
  by_cases c:q z=true
  ·rw [if_pos c];rcases List.mem_cons.1 h with rfl|h
   ·rw [b]at c;cases c
   ·exact aUl h b
  ·rw [if_neg c];exact h
def Srt (l:List gU):Prop:=l.Pairwise λa b=>a.Number<b.Number
theorem srt_of: ∀{l:List gU},aPl l=false->Srt l
 | [],_=>List.Pairwise.nil
 | [x],_=>List.pairwise_singleton _ _
 |x::y::l,h=>by
  have b:(decide (y.Number<=x.Number)||aPl (y::l))=false:=h;rw [Bool.or_eq_false_iff,decide_eq_false_iff_not]at b;have c:Srt (y::l):=srt_of b.2;refine List.Pairwise.cons (λz a=>?_) c;rcases List.mem_cons.1 a with rfl|a
  ·omega
  ·have:=(List.pairwise_cons.1 c).1 z a;omega
theorem aVj {q:gU->Bool}: ∀{l:List gU}{x:gU},Srt l->x∈l->q x=true->(∀a b:gU,a.Number<b.Number->q b=true->q a=true)->x∈l.takeWhile q
 |z::l,x,d,h,c,hd=>by
  obtain⟨e,f⟩:=List.pairwise_cons.1 d;rw [List.takeWhile_cons];rcases List.mem_cons.1 h with rfl|h
  ·rw [if_pos c];exact List.mem_cons_self ..
  ·rw [if_pos (hd z x (e x h) c)];exact List.mem_cons_of_mem _ (aVj f h c hd)
theorem mM {n:Int}: ∀{l:List gU}{r:gU},Srt l->r∈l->r.Number=n->dJ l n=r
 |z::l,r,b,h,a=>by
  obtain⟨c,d⟩:=List.pairwise_cons.1 b;unfold dJ;rw [List.find?_cons];rcases List.mem_cons.1 h with rfl|h
  ·rw [dT a];rfl
  ·have:=c r h;rw [qD (by omega: ¬z.Number=n)];exact mM d h a
theorem mY {l:List gU}{n:Int}(h: ∀r∈l,r.Number≠n):dJ l n=qH:=by
 unfold dJ;rw [List.find?_eq_none.2 (λr a=>by simpa using h r a)];rfl
def aHw (l:List gU)(b e:Int):List gU:=(l.dropWhile λr=>decide (r.Number<b)).takeWhile λr=>decide (r.Number<e)
theorem near_eq (l:List gU) (b e:Int) (m:l.length<=9223372036854775807):Fc0 l b e=some (aHw l b e):=by
 unfold Fc0;have s:=aHo (λr:gU=>decide (r.Number<b)) l;have hd:=(aCo (λr:gU=>decide (r.Number<b)) l).2;have o: ∀a,(l.takeWhile λr:gU=>decide (r.Number<b)).length=a->Ffb l b 0=some (a:Int):=by
  intro a h;unfold Ffb;refine xB (λi=>(i:Int)) a (by omega) rfl (λk i hi=>?_) (λk=>?_)
  ·have f:i<l.length:=by omega
   have d:l[i]? =some l[i]:=gE f;have g:decide (l[i].Number<b)=true:=aGx (q:=λr:gU=>decide (r.Number<b)) (by rw [h];exact hi) d;simp only [zK,yF f,zU,yS d,zC,fJ f m,g]
  ·by_cases c:a<l.length
   ·have d:l[a]? =some l[a]:=gE c;have g:decide (l[a].Number<b)=false:=aHh (q:=λr:gU=>decide (r.Number<b)) (by rw [h];exact d);simp only [zK,yF c,zU,yS d,zC,g,zQ]
   ·have:a=l.length:=by omega
    simp only [zK,this,yH,zQ,zC]
 generalize hag:(l.takeWhile λr:gU=>decide (r.Number<b)).length=a at *
 have p: ∀n,((l.drop a).takeWhile λr:gU=>decide (r.Number<e)).length=n->Fe6 l e (a:Int)=some ((a+n:Nat):Int):=by
  intro n h;have j:=aHo (λr:gU=>decide (r.Number<e)) (l.drop a);rw [h,List.length_drop]at j;unfold Fe6;refine xB (λi=>((a+i:Nat):Int)) n (by omega) rfl (λk i hi=>?_) (λk=>?_)
  ·have f:a+i<l.length:=by omega
   have d:l[a+i]? =some l[a+i]:=gE f;have g:decide (l[a+i].Number<e)=true:=aGx (q:=λr:gU=>decide (r.Number<e)) (by rw [h];exact hi) (by rw [List.getElem?_drop];exact d);simp only [zK,yF f,zU,yS d,zC,fJ f m,g];rfl
  ·by_cases c:a+n<l.length
   ·have d:l[a+n]? =some l[a+n]:=gE c;have g:decide (l[a+n].Number<e)=false:=aHh (q:=λr:gU=>decide (r.Number<e)) (l:=l.drop a) (by rw [h,List.getElem?_drop];exact d);simp only [zK,yF c,zU,yS d,zC,g,zQ]
   ·have:a+n=l.length:=by omega
    simp only [zK,this,yH,zQ,zC]
 rw [o a rfl,zC,p _ rfl,zC];have j:=aHo (λr:gU=>decide (r.Number<e)) (l.drop a);rw [List.length_drop]at j;have:sub' l (a:Int) ((a+((l.drop a).takeWhile λr:gU=>decide (r.Number<e)).length:Nat):Int)=some (aHw l b e):=by
  unfold sub';rw [if_pos (by omega)];unfold aHw;rw [<-hd]
  congr 1
  rw [Int.toNat_natCast,<-(aCo (λr:gU=>decide (r.Number<e)) (l.drop a)).1]
  congr 1
  rw [(aCo (λr:gU=>decide (r.Number<e)) (l.drop a)).1];omega
 rw [this,zC]
theorem aQw {l:List gU}{b e:Int}{r:gU}(h:r∈aHw l b e):r∈l:=(List.dropWhile_sublist _).mem ((List.takeWhile_sublist _).mem h)
theorem near_at {l:List gU} (i:Srt l) {b e n:Int} (m:b<=n) (o:n<e):dJ (aHw l b e) n=dJ l n:=by
 have g:Srt (l.dropWhile λr=>decide (r.Number<b)):=List.Pairwise.sublist (List.dropWhile_sublist _) i;have h:Srt (aHw l b e):=List.Pairwise.sublist (List.takeWhile_sublist _) g;by_cases c: ∃r∈l,r.Number=n;obtain⟨r,d,f⟩:=c;rw [mM i d f];refine mM h ?_ f;refine aVj g (aUl d (qD (by omega))) (dT (by omega)) (λ_ _ _ k=>?_);rw [decide_eq_true_eq]at k⊢;omega;rw [mY (λr d f=>c ⟨r,aQw d,f⟩),mY (λr d f=>c ⟨r,d,f⟩)]
def jF (g:Int)(l:List gU)(A:Arr 16 gU):Arr 16 gU:=l.foldl (λA r=>if r.Number/16=g then Arr.set A (r.Number%16) r else A) A
theorem aMf {g:Int}{f:Nat}: ∀{l:List gU}{A:Arr 16 gU},(∀r∈l,¬(r.Number/16=g/\(r.Number%16).toNat=f))->(jF g l A).l[f]? =A.l[f]?
 | [],A,_=>rfl
 |y::l,A,h=>by
  have a:=h y (List.mem_cons_self ..);unfold jF;rw [List.foldl_cons];have b:=aMf (g:=g) (f:=f) (l:=l) (A:=if y.Number/16=g then Arr.set A (y.Number%16) y else A) (λr d=>h r (List.mem_cons_of_mem _ d));refine b.trans ?_
  by_cases c:y.Number/16=g
  ·rw [if_pos c];show(A.l.set (y.Number%16).toNat y)[f]? =_;rw [List.getElem?_set_ne (λe=>a ⟨c,e⟩)]
  ·rw [if_neg c]
theorem aWy {g:Int}: ∀{l:List gU}{A:Arr 16 gU}{r:gU},Srt l->r∈l->0<=r.Number->r.Number/16=g->(jF g l A).l[(r.Number%16).toNat]? =some r
 |y::l,A,r,b,h,c,a=>by
  obtain⟨d,e⟩:=List.pairwise_cons.1 b;unfold jF;rw [List.foldl_cons];rcases List.mem_cons.1 h with rfl|h
  ·rw [if_pos a];refine(aMf (g:=g) (λx f _=>?_)).trans ?_
   ·have:=d x f;omega
   ·show(A.l.set (r.Number%16).toNat r)[(r.Number%16).toNat]? =_;rw [List.getElem?_set_self];rw [A.h];omega
  ·exact aWy e h c a
theorem win_eq (g:Int) (l:List gU) (A:Arr 16 gU) (B:l.length<=9223372036854775807) (p: ∀r∈l,0<=r.Number/\r.Number<=4194303):
  Ffc g (l,A)=some (l.dropWhile (λr=>decide (r.Number/16<=g)),jF g (l.takeWhile λr=>decide (r.Number/16<=g)) A):=by
 have u:=aHo (λr:gU=>decide (r.Number/16<=g)) l;obtain⟨s,hd⟩:=aCo (λr:gU=>decide (r.Number/16<=g)) l;unfold Ffc;refine xB (λi=>(l.drop i,jF g (l.take i) A)) (l.takeWhile λr:gU=>decide (r.Number/16<=g)).length (by omega) rfl (λk i hi=>?_) (λk=>?_)
 ·have t:i<l.length:=by omega
  have b:l[i]? =some l[i]:=gE t;have m:decide (l[i].Number/16<=g)=true:=aGx (q:=λr:gU=>decide (r.Number/16<=g)) hi b;obtain⟨f,v⟩:=p _ (List.getElem_mem t);have a:decide (0<((l.drop i).length:Int))=true:=dT (by rw [List.length_drop];omega);have n:at' (l.drop i) 0=some l[i]:=yS (i:=0) (by rw [List.getElem?_drop];exact b);have d:sub' (l.drop i) 1 ((l.drop i).length:Int)=some (l.drop (i+1)):=by
   unfold sub';rw [if_pos (by rw [List.length_drop];omega)]
   congr 1
   rw [show(1:Int).toNat=1 from rfl,List.drop_drop,List.take_of_length_le];rw [List.length_drop,List.length_drop];omega
  have w:jF g (l.take (i+1)) A=if l[i].Number/16=g then Arr.set (jF g (l.take i) A) (l[i].Number%16) l[i]else jF g (l.take i) A:=by
   rw [dV b];unfold jF;rw [foldl_snoc]
  have e: ∃z,at' (jF g (l.take i) A).l (l[i].Number%16)=some z:=by
   obtain⟨j,x⟩: ∃j:Nat,l[i].Number%16=(j:Int):=⟨(l[i].Number%16).toNat,by omega⟩;rw [x,aEn];have o:j<(jF g (l.take i) A).l.length:=by rw [(jF g (l.take i) A).h];omega
   exact⟨_,gE o⟩
  obtain⟨z,y⟩:=e;simp only [zK,a,zU,n,zC,d];rw [qO f (by omega) (by decide),zC,m,zC,zU,zC,aYr f (by decide),zC,y,zC,yV,w]
  by_cases c:l[i].Number/16=g
  ·rw [if_pos c,if_pos c,zC]
  ·rw [if_neg c,if_neg c,zC]
 ·by_cases c:(l.takeWhile λr:gU=>decide (r.Number/16<=g)).length<l.length
  ·have b:l[(l.takeWhile λr:gU=>decide (r.Number/16<=g)).length]? =some l[(l.takeWhile λr:gU=>decide (r.Number/16<=g)).length]:=gE c;have m:=aHh (q:=λr:gU=>decide (r.Number/16<=g)) b;obtain⟨f,v⟩:=p _ (List.getElem_mem c);have a:decide (0<((l.drop (l.takeWhile λr:gU=>decide (r.Number/16<=g)).length).length:Int))=true:=dT (by rw [List.length_drop];omega);have n:at' (l.drop (l.takeWhile λr:gU=>decide (r.Number/16<=g)).length) 0=some l[(l.takeWhile λr:gU=>decide (r.Number/16<=g)).length]:=yS (i:=0) (by rw [List.getElem?_drop];exact b);simp only [zK,a,zU,n,zC];rw [qO f (by omega) (by decide),zC,m,zC,zQ,s,hd]
  ·have a:decide (0<((l.drop (l.takeWhile λr:gU=>decide (r.Number/16<=g)).length).length:Int))=false:=qD (by rw [List.length_drop];omega);simp only [zK,a,zQ,zC];rw [s,hd]
theorem rest_ok {r:gU} (o:SzR r) (h:rsM r=0):qI r/\0<=r.Number/\r.Number<=4194303:=by
 obtain⟨g,_,p,f⟩:=o;unfold rsM at h;have e:r.Frame.l.map Int.toNat=g:=by rw [f];exact aTy
 rw [e]at h;have k:dC r.Number 0 4194303=false:=by
  unfold aSs at h;split at h
  ·cases h
  ·rename_i c;simpa using c
 have d:=aPn r g k;rw [h]at d;refine⟨⟨?_,?_⟩,aBi.1 k⟩
 ·intro x a;rw [f]at a;unfold en at a;obtain⟨_,q,rfl⟩:=List.mem_map.1 a;obtain⟨i,hi,rfl⟩:=List.mem_iff_getElem.1 q;have:=p i;unfold wd at this;rw [List.getD_eq_getElem?_getD,gE hi]at this;simp at this;omega
 ·intro x a;obtain⟨i,hi,rfl⟩:=List.mem_iff_getElem.1 a;rcases aT (stF r.Frame.l) r.States.l 0 with ⟨_,_,_,-,b,m⟩|⟨s,m⟩
  ·rw [m]at d;subst d;unfold stF at b;split at b
   ·cases b
   ·split at b<;>cases b
  ·exact aYh (s i _ (gE hi))
structure aAe (l:List gU):Prop where
 n:l.length<=5000
 good: ∀r∈l,qI r/\0<=r.Number/\r.Number<=4194303
 srt:Srt l
theorem rs_ok {l:List gU}(b: ∀r∈l,SzR r)(h:aWn l):aAe l:=⟨h.n,λr a=>rest_ok (b r a) (h.all r a),srt_of h.ord⟩
theorem aCn {l:List gU} (h:aAe l) (n:Int):qI (dJ l n):=by
 by_cases c: ∃r∈l,r.Number=n;obtain⟨r,a,b⟩:=c;rw [mM h.srt a b];exact(h.good r a).1;rw [mY (λr a b=>c ⟨r,a,b⟩)];exact aWg
theorem one_take {p:Param}(a:rE p=0):(tkP 0 ((gV p 0).flatMap bF) []).1=true:=by
 unfold rE at a;split at a;cases a;split at a;cases a;split at a;rename_i c;exact absurd a c;split at a;rename_i c;exact absurd a c;split at a;rename_i c;exact absurd a c;split at a;cases a;rename_i c;simpa using c
theorem one_sz {m:Map}{p:Param}(hm:m.Params=[p])(b:SzP p):SzM m:=⟨by rw [hm,List.length_singleton];omega,λ_ a=>by rw [hm]at a;rw [mS.1 a];exact b⟩
theorem one_chk {m:Map}{p:Param}(hm:m.Params=[p])(f:m.Version=0)(g:SzP p)(c:rE p=0):Fav m=some (-1,0):=by
 have d:=uH c;have b:=one_sz hm g;have a: ∀q∈m.Params,tJ q:=λq e=>by rw [hm]at e;rw [mS.1 e];exact d
 have h:=aF d.tm 0;unfold Fav;simp only [lwi,zC,zK,xJ,chkL1 m b,chkL2 m b a,chkL3 m b a];rw [hm,f,List.length_singleton];rw [show(!(decide ((0:Int)<=0)&&decide ((0:Int)<=2047)))=false from rfl,zQ,show decide ((200:Int)<((1:Nat):Int))=false from rfl,zQ,dB];rw [show aQh [p] 0 p=none by unfold aQh;rw [if_pos c];rfl];show kH cntF _ [p] 0 0=_;rw [kH,cntF,Go.OB.wrap_i64 (by omega) (by omega),if_neg (by omega)];show kH tkF _ [p] 0 []=_;rw [kH,tkF,if_pos (show(tkP ((0:Nat):Int) ((gV p 0).flatMap bF) []).1=true from one_take c)];rfl
theorem aUf {m:Map}{p:Param} (hm:m.Params=[p]) (a:tJ p):Fcy m=some (gV p 0):=by
 have b:=aF a.tm 0;unfold Fcy Fhv
 repeat (first |rw [zK]|rw [xJ]|rw [zC])
 rw [hm,List.length_singleton];rw [xB (r:=some (gV p 0)) (λi=>match i with |0=>([],0)|_=>(gV p 0,1)) 1 (by decide)]
 ·rfl
 ·rfl
 ·intro k i _;obtain rfl:i=0:=by omega
  simp only [zK];rw [show decide ((0:Int)<((1:Nat):Int))=true from rfl,zU,show at' [p] 0=some p from rfl,zC,aOm a.pt a.tm,zC,bJ (by rw [List.length_nil];omega) (by decide),zC];rfl
 ·intro k;rfl
theorem one_ok {p:Param}(b:SzP p)(a:rE p=0):Fa8 (Map.mk 0 [p])=some (gV p 0,0):=by
 unfold Fa8;rw [one_chk rfl rfl b a,zC];simp only [zK];rw [show decide ((0:Int)≠0)=false from rfl,zQ,aUf rfl (uH a),zC]
def allM:List Param->Nat->List Cell
 | [],_=>[]
 |p::l,i=>gV p (i:Int)++allM l (i+1)
theorem aOi (p:Param): ∀(l:List Param) (i:Nat),allM (l++[p]) i=allM l i++gV p ((i+l.length:Nat):Int)
 | [],i=>by simp [allM]
 |q::l,i=>by rw [List.cons_append,allM,allM,aOi p l (i+1),List.append_assoc,List.length_cons,show i+1+l.length=i+(l.length+1)by omega]
theorem aKm: ∀(l:List Param) (i:Nat),(allM l i).length=(l.map λp=>(gV p 0).length).sum
 | [],_=>rfl
 |p::l,i=>by rw [allM,List.length_append,aKm l (i+1),List.map_cons,List.sum_cons,(aBr p (i:Int)).2]
theorem aGm {p:Param}{a:Int}{c:Cell}(h:c∈gV p a):c.Param=a:=by
 obtain⟨_,_,_,-,-,rfl⟩:=aEz h;rfl
theorem aQv {l:List Param}{j:Nat}{p:Param}(h:l[j]? =some p):(allM l 0).filter (λc=>decide (c.Param=(j:Int)))=gV p (j:Int):=by
 have a: ∀(q:Param) (i:Nat),i≠j->(gV q (i:Int)).filter (λc=>decide (c.Param=(j:Int)))=[]:=by
  intro q i hi;rw [List.filter_eq_nil_iff];intro c b;rw [aGm b,decide_eq_true_eq];omega
 have none: ∀(l:List Param) (i:Nat),j<i->(allM l i).filter (λc=>decide (c.Param=(j:Int)))=[]:=by
  intro l
  induction l with
  |nil=>intro i _;rfl
  |cons q l d=>intro i hi;rw [allM,List.filter_append,a q i (by omega),d (i+1) (by omega)];rfl
 have e: ∀(l:List Param) (i k:Nat),i+k=j->l[k]? =some p->(allM l i).filter (λc=>decide (c.Param=(j:Int)))=gV p (j:Int):=by
  intro l
  induction l with
  |nil=>intro i k _ h;simp at h
  |cons q l d=>
   intro i k _ h;rw [allM,List.filter_append]
   cases k with
   |zero=>
    simp at h;subst h;obtain rfl:i=j:=by omega
    rw [none l (i+1) (by omega),List.append_nil,List.filter_eq_self];intro c b;rw [aGm b];exact dT rfl
   |succ k=>
    rw [a q i (by omega),d (i+1) k (by omega) (by simpa using h)];rfl
 exact e l 0 j (by omega) h
theorem aKk {m:Map} (e:SzM m) (hm:Fai m=some (0,0)) (f:MapOk m) {j:Nat}{p:Param} (h:m.Params[j]? =some p):Fbe m (j:Int)=some (gV p (j:Int)):=by
 have s:(allM m.Params 0).length<=4000:=by rw [aKm];exact f.cnt
 have a:Fee m=some (allM m.Params 0):=by
  unfold Fee Fiq
  repeat (first |rw [zK]|rw [xJ]|rw [zC])
  rw [xB (r:=some (allM m.Params 0)) (λi=>(allM (m.Params.take i) 0,(i:Int))) m.Params.length e.pl]
  ·rfl
  ·rfl
  ·intro k i hi;have b:m.Params[i]? =some m.Params[i]:=gE hi;have t:=f.all _ (List.getElem_mem hi);have o:(allM (m.Params.take (i+1)) 0).length<=182400:=by
    rw [aKm];have: ∀l:List Param,(∀q∈l,tJ q)->(l.map λp=>(gV p 0).length).sum<=l.length*912:=by
     intro l
     induction l with
     |nil=>intro _;simp
     |cons q l u=>
      intro g;rw [List.map_cons,List.sum_cons,List.length_cons];have:=u λz e=>g z (List.mem_cons_of_mem _ e)
      have:=aF (g q (List.mem_cons_self ..)).tm 0;omega
    have v:=this (m.Params.take (i+1)) λq g=>f.all q (List.mem_of_mem_take g)
    rw [List.length_take]at v;have:=f.n;have:min (i+1) m.Params.length<=200:=by omega
    generalize min (i+1) m.Params.length=z at *
    omega
   have d:allM (m.Params.take (i+1)) 0=allM (m.Params.take i) 0++gV m.Params[i] (i:Int):=by
    rw [dV b,aOi,List.length_take,show 0+min i m.Params.length=i by omega]
   rw [d,List.length_append]at o;simp only [zK,yF hi,zU,yS b,zC,aIw t.pt t.tm];rw [bJ (by omega) (by decide),zC,fJ hi e.pl,d]
  ·intro k;simp only [zK,yH,zQ,List.take_length]
 unfold Fbe Fga;rw [hm,zC];simp only [zK];rw [show decide ((0:Int)≠0)=false from rfl,zQ,a,zC,zC];unfold Fhs;rw [xB (r:=some (gV p (j:Int))) (λi=>(((allM m.Params 0).take i).filter (λc=>decide (c.Param=(j:Int))),(i:Int))) (allM m.Params 0).length (by omega)]
 ·rfl
 ·rfl
 ·intro k i hi;have b:(allM m.Params 0)[i]? =some (allM m.Params 0)[i]:=gE hi;have w:(((allM m.Params 0).take i).filter (λc=>decide (c.Param=(j:Int)))).length<=4000:=Nat.le_trans (List.length_filter_le _ _) (by rw [List.length_take];omega);simp only [zK,yF hi,zU,yS b,zC,fJ hi (by omega)];rw [bJ (by rw [List.length_singleton];omega) (by decide),zC,dV b,List.filter_append]
  by_cases c:(allM m.Params 0)[i].Param=(j:Int)
  ·rw [dT c,zU,zC,show [(allM m.Params 0)[i]].filter (λc=>decide (c.Param=(j:Int)))=[(allM m.Params 0)[i]]by simp [c]]
  ·rw [qD c,zQ,zC,show [(allM m.Params 0)[i]].filter (λc=>decide (c.Param=(j:Int)))=[]by simp [c],List.append_nil]
 ·intro k;simp only [zK,yH,zQ,List.take_length,aQv h]
def aH (m:Map)(p:Param)(a:List gU)(base:Int)(c:Cell):fF:=fF.mk (qR p base c) (aKg m p (dJ a) base c.Places).1 (aKg m p (dJ a) base c.Places).2
def aKo (m:Map)(p:Param)(a:List gU)(cs:List Cell)(g:Int):List fF:=cs.map (aH m p a (g*16))
def jA (m:Map)(p:Param)(a:List gU)(cs:List Cell)(n0:Int)(k:Nat):List fF:=(List.range k).flatMap λ(j:Nat)=>aKo m p a cs (n0+(j:Int))
theorem aIv (m:Map)(p:Param)(a:List gU)(cs:List Cell)(n0:Int)(k:Nat):jA m p a cs n0 (k+1)=jA m p a cs n0 k++aKo m p a cs (n0+(k:Int)):=by
 unfold jA;rw [List.range_succ,List.flatMap_append,List.flatMap_singleton]
theorem rW (m:Map)(p:Param)(a:List gU)(cs:List Cell)(n0:Int): ∀k,(jA m p a cs n0 k).length=k*cs.length
 |0=>by simp [jA]
 |k+1=>by rw [aIv,List.length_append,rW m p a cs n0 k,Nat.add_mul,Nat.one_mul];unfold aKo;rw [List.length_map]
theorem cells_pi (p:Param) (a:Int):gV p a=(gV p 0).map λc=>Cell.mk a c.Index c.Frame c.Places:=by
 apply List.ext_getElem?;intro i;rw [List.getElem?_map];have j:(gV p a).length=(gV p 0).length:=(aBr p a).2;by_cases hi:i<(gV p 0).length;have b:(gV p 0)[i]? =some (gV p 0)[i]:=gE hi;have d:(gV p a)[i]? =some ((gV p a)[i]'(by omega)):=gE (by omega);obtain⟨s,f,a2,-⟩:=aDu (dI p) b;obtain⟨g,e,h,-⟩:=aDu (dI p) d;rw [f]at e;obtain rfl:s=g:=by simpa using e
 rw [b,d,a2,h];rfl;rw [List.getElem?_eq_none (by omega),List.getElem?_eq_none (by omega)];rfl
theorem sec_pi (m:Map)(p:Param)(a:List gU)(b g:Int):aKo m p a (gV p b) g=aKo m p a (gV p 0) g:=by
 rw [cells_pi p b];unfold aKo;rw [List.map_map];rfl
theorem aCj {p:Param}(a:tJ p){b:Int}{c:Cell}(d:c∈gV p b):c.Places.length<=8/\(∀x∈c.Places,aMm x)/\tV c.Places=(nP p.Parts).toNat:=by
 obtain⟨s,t,_,e,f,rfl⟩:=aEz d;have:=aRf a s (t:Int);exact⟨this.2,λx g=>place_ok a e f g,this.1⟩
def aLm (a:List gU)(n0:Int):Nat->List gU
 |0=>a
 |j+1=>(aLm a n0 j).dropWhile λr=>decide (r.Number/16<=n0+(j:Int))
theorem aGh (a:List gU)(n0:Int): ∀j,(aLm a n0 j).Sublist a
 |0=>List.Sublist.refl _
 |j+1=>(List.dropWhile_sublist _).trans (aGh a n0 j)
theorem aSx {a:List gU}{n0:Int}{r:gU}(b:r∈a): ∀j:Nat,n0+(j:Int)<=r.Number/16->r∈aLm a n0 j
 |0,_=>b
 |j+1,h=>aUl (aSx b j (by omega)) (qD (by omega))
theorem win_at {d:List gU} (h:aAe d) {n0:Int} (j:Nat) (s:0<=n0+(j:Int)) {f:Int} (f0:0<=f) (f1:f<=15):
  at' (jF (n0+(j:Int)) ((aLm d n0 j).takeWhile λr=>decide (r.Number/16<=n0+(j:Int))) (Arr.rep 16 qH)).l f=some (dJ d ((n0+(j:Int))*16+f)):=by
 have k:Srt (aLm d n0 j):=List.Pairwise.sublist (aGh d n0 j) h.srt;have n:Srt ((aLm d n0 j).takeWhile λr=>decide (r.Number/16<=n0+(j:Int))):=List.Pairwise.sublist (List.takeWhile_sublist _) k;obtain⟨i,rfl⟩: ∃i:Nat,f=(i:Int):=⟨f.toNat,by omega⟩;rw [aEn]
 by_cases c: ∃r∈d,r.Number=(n0+(j:Int))*16+(i:Int)
 ·obtain⟨r,e,o⟩:=c;rw [mM h.srt e o];have hm:r∈(aLm d n0 j).takeWhile λr=>decide (r.Number/16<=n0+(j:Int)):=by
   refine aVj k (aSx e j (by omega)) (dT (by omega)) (λ_ _ _ p=>?_);rw [decide_eq_true_eq]at p⊢;omega
  have:=aWy (g:=n0+(j:Int)) (A:=Arr.rep 16 qH) n hm (by omega) (by omega);rw [show(r.Number%16).toNat=i by omega]at this;exact this
 ·rw [mY (λr e o=>c ⟨r,e,o⟩)];rw [aMf (λr e p=>?_)]
  ·show(List.replicate 16 qH)[i]? =some qH;rw [List.getElem?_replicate,if_pos (by omega)]
  ·have m:r∈d:=(aGh d n0 j).mem ((List.takeWhile_sublist _).mem e);exact c ⟨r,m,by have:=(h.good r m).2;omega⟩
theorem aOh {m:Map}{p:Param}{a:List gU} (u:SzP p) (q:rE p=0) (h:aAe a) {n0 d:Int} (k:Nat) (C:0<=n0) (D:n0+(k:Int)=d+1) (E:d<=262143) (s:k*(gV p 0).length<=20000):
  Fa7 m p (gV p 0) a n0 d=some (jA m p a (gV p 0) n0 k):=by
 have e:=uH q;have v:(gV p 0).length<=912:=aF e.tm 0;unfold Fa7 Fg3;rw [xB (r:=some (jA m p a (gV p 0) n0 k)) (λj=>(aLm a n0 j,jA m p a (gV p 0) n0 j,n0+(j:Int))) k (by omega)]
 ·rfl
 ·show(a,[],n0)=(a,jA m p a (gV p 0) n0 0,n0+((0:Nat):Int));rw [Int.natCast_zero,Int.add_zero];rfl
 ·intro f j _;have b:=aGh a n0 j;have w:=b.length_le;have G:=h.n;have g:=rW m p a (gV p 0) n0 j;have t:j*(gV p 0).length+(gV p 0).length<=20000:=by
   have:(j+1)*(gV p 0).length<=k*(gV p 0).length:=Nat.mul_le_mul_right _ (by omega);rw [Nat.add_mul,Nat.one_mul]at this;omega
  simp only [zK];rw [dT (by omega:n0+(j:Int)<=d),zU,win_eq _ _ _ (by omega) (λr y=>(h.good r (b.mem y)).2),zC];simp only;rw [Go.OB.wrap_i64 (n:=(n0+(j:Int))*16) (by omega) (by omega),times_l' e (by omega) (by omega) 0,zC];have z:Fgg m p (gV p 0) ((aLm a n0 j).dropWhile λr=>decide (r.Number/16<=n0+(j:Int))) (jF (n0+(j:Int)) ((aLm a n0 j).takeWhile λr=>decide (r.Number/16<=n0+(j:Int))) (Arr.rep 16 qH)) ((gV p 0).map (qR p ((n0+(j:Int))*16))) ((gV p 0).length:Int) (jA m p a (gV p 0) n0 j,0)=some (aLm a n0 (j+1),jA m p a (gV p 0) n0 (j+1)):=by
   unfold Fgg;refine xB (λi=>(jA m p a (gV p 0) n0 j++((gV p 0).take i).map (aH m p a ((n0+(j:Int))*16)),(i:Int))) (gV p 0).length (by omega) ?_ (λf i hi=>?_) (λf=>?_)
   ·show _=(jA m p a (gV p 0) n0 j++[],_);rw [List.append_nil];rfl
   ·have l:(gV p 0)[i]? =some (gV p 0)[i]:=gE hi;obtain⟨A,c2,c3⟩:=aCj e (List.getElem_mem hi);have B:at' ((gV p 0).map (qR p ((n0+(j:Int))*16))) (i:Int)=some (qR p ((n0+(j:Int))*16) (gV p 0)[i]):=yS (by rw [List.getElem?_map,l];rfl);simp only [zK,yF hi,zU,yS l,zC];rw [read_eq m p (gV p 0)[i] _ (dJ a) ((n0+(j:Int))*16) u q A (λx o=>⟨c2 x o,aCn h _,win_at h j (by omega) (c2 x o).f0 (c2 x o).f1⟩) c3,zC];rw [B,zC,bJ (by rw [List.length_append,g,List.length_map,List.length_take,List.length_singleton];omega) (by decide),zC,fJ hi (by omega),dV l,List.map_append,List.map_singleton,<-List.append_assoc];rfl
   ·simp only [zK,yH,zQ,List.take_length];rw [aIv];rfl
  have c:(Arr.rep 16 (gU.mk 0 (Arr.rep 64 0:Arr 64 Int) (Arr.rep 64 0:Arr 64 Int) false 0 false):Arr 16 gU)=Arr.rep 16 qH:=rfl;rw [c,z,zC];rw [Go.OB.wrap_i64 (n:=n0+(j:Int)+1) (by omega) (by omega),show n0+(j:Int)+1=n0+((j+1:Nat):Int)by omega]
 ·intro f;simp only [zK];rw [qD (by omega),zQ]
theorem samples_5 {m:Map}{p:Param}{b:List gU} (y:SzP p) (t:rE p=0) (h:aAe b) {a:Int} (u:at' m.Params a=some p) {n0 c:Int} (k:Nat) (F:0<=n0) (G:n0+(k:Int)=c+1) (H:c<=262143) (v:k*(gV p 0).length<=20000):
  Fem m a b (gV p a) (c*16) (n0*16,[])=some (jA m p b (gV p 0) n0 k):=by
 have d:=uH t;have z:(gV p 0).length<=912:=aF d.tm 0;have A:(gV p a).length=(gV p 0).length:=(aBr p a).2;unfold Fem;refine xB (λj=>((n0+(j:Int))*16,jA m p b (gV p 0) n0 j)) k (by omega) ?_ (λe j _=>?_) (λe=>?_)
 ·show _=((n0+((0:Nat):Int))*16,_);rw [Int.natCast_zero,Int.add_zero];rfl
 ·have J:=h.n;have f:=rW m p b (gV p 0) n0 j;have w:j*(gV p 0).length+(gV p 0).length<=20000:=by
   have:(j+1)*(gV p 0).length<=k*(gV p 0).length:=Nat.mul_le_mul_right _ (by omega);rw [Nat.add_mul,Nat.one_mul]at this;omega
  simp only [zK];rw [dT (by omega:(n0+(j:Int))*16<=c*16),zU,u,zC,times_5 d (by omega) (by omega) a,zC,Go.OB.wrap_i64 (n:=(n0+(j:Int))*16+16) (by omega) (by omega),near_eq _ _ _ (by omega),zC];have g:(aHw b ((n0+(j:Int))*16) ((n0+(j:Int))*16+16)).length<=9223372036854775807:=by
   have:=((List.takeWhile_sublist (λr:gU=>decide (r.Number<(n0+(j:Int))*16+16)) (l:=b.dropWhile λr=>decide (r.Number<(n0+(j:Int))*16))).trans (List.dropWhile_sublist _)).length_le;show((b.dropWhile λr=>decide (r.Number<(n0+(j:Int))*16)).takeWhile λr=>decide (r.Number<(n0+(j:Int))*16+16)).length<=_;omega
  have B:Ffq m (gV p a) ((n0+(j:Int))*16) ((gV p a).map (qR p ((n0+(j:Int))*16))) (aHw b ((n0+(j:Int))*16) ((n0+(j:Int))*16+16)) (0,jA m p b (gV p 0) n0 j)=some (jA m p b (gV p 0) n0 (j+1)):=by
   unfold Ffq;refine xB (λi=>((i:Int),jA m p b (gV p 0) n0 j++((gV p a).take i).map (aH m p b ((n0+(j:Int))*16)))) (gV p a).length (by omega) ?_ (λe i hi=>?_) (λe=>?_)
   ·show _=(_,jA m p b (gV p 0) n0 j++[]);rw [List.append_nil];rfl
   ·have o:(gV p a)[i]? =some (gV p a)[i]:=gE hi;obtain⟨C,c2,c3⟩:=aCj d (List.getElem_mem hi);have q:at' m.Params (gV p a)[i].Param=some p:=by rw [aGm (List.getElem_mem hi)];exact u
    have D:at' ((gV p a).map (qR p ((n0+(j:Int))*16))) (i:Int)=some (qR p ((n0+(j:Int))*16) (gV p a)[i]):=yS (by rw [List.getElem?_map,o];rfl);simp only [zK,yF hi,zU,yS o,zC];rw [sample_eq m p (gV p a)[i] _ (dJ b) ((n0+(j:Int))*16) y t C (by omega) (by omega) g (λr E=>(h.good r (aQw E)).1)
     (λx s=>⟨c2 x s,aCn h _,near_at h.srt (by have:=(c2 x s).f0;omega) (by have:=(c2 x s).f1;omega)⟩) c3 q,zC]
    rw [D,zC,bJ (by rw [List.length_append,f,List.length_map,List.length_take,List.length_singleton];omega) (by decide),zC,fJ hi (by omega),dV o,List.map_append,List.map_singleton,<-List.append_assoc];rfl
   ·simp only [zK,yH,zQ,List.take_length];rw [aIv,<-sec_pi m p b a];rfl
  rw [B,zC]
  congr 2
  omega
 ·simp only [zK];rw [qD (by omega),zQ]
def dP (a:List gU):Int:=match a.getLast? with
 |some r=>r.Number/16
 |none=>0
def bQ (a:List gU):Int:=match a.head? with
 |some r=>r.Number/16
 |none=>0
def jD (a:List gU):Nat:=(dP a-bQ a+1).toNat
def kS (m:Map)(p:Param)(a:List gU):Series×Bool:=if a=[]then(Series.mk 1 [],true)else if 20000<(jD a:Int)*(gV p 0).length+1 then(Series.mk 0 [],false)else(Series.mk 1 (jA m p a (gV p 0) (bQ a) (jD a)++[fF.mk ((dP a+1)*1024) 0 0]),true)
theorem ends {c:List gU} (h:aAe c) (d:c≠[]): ∃a b,at' c 0=some a/\at' c (IntKind.i64.wrap ((c.length:Int)-1))=some b/\bQ c=a.Number/16/\dP c=b.Number/16/\0<=a.Number/\b.Number<=4194303/\a.Number<=b.Number:=by
 have f:=h.n
 cases c with
 |nil=>exact absurd rfl d
 |cons a l=>
  have e:(a::l)[l.length]? =some ((a::l)[l.length]'(by simp)):=gE (by simp);refine⟨a,(a::l)[l.length]'(by simp),rfl,?_,rfl,?_,(h.good a (List.mem_cons_self ..)).2.1,(h.good _ (List.getElem_mem (by simp))).2.2,?_⟩
  ·rw [List.length_cons]at f⊢;rw [wrap_i64 (by omega) (by omega),show((l.length+1:Nat):Int)-1=(l.length:Int)by omega];exact yS e
  ·unfold dP;rw [List.getLast?_eq_getElem?,List.length_cons,show l.length+1-1=l.length by omega,e]
  ·cases l with
   |nil=>exact Int.le_refl _
   |cons b l=>
    have g:=(List.pairwise_cons.1 h.srt).1 ((a::b::l)[(b::l).length]'(by simp)) (by
     show(b::l)[l.length]'(by simp)∈b::l;exact List.getElem_mem _)
    omega
theorem made_5 {m:Map}{p:Param}{d:List gU}(t:SzP p)(q:rE p=0)(h:aAe d){g:Int}(u:at' m.Params g=some p)(f:Fbe m g=some (gV p g)):Fbj m g d=some (kS m p d):=by
 have v:=uH q;have w:(gV p 0).length<=912:=aF v.tm 0;have j:(gV p g).length=(gV p 0).length:=(aBr p g).2;unfold Fbj kS
 repeat (first |rw [zK]|rw [xJ]|rw [zC])
 rw [yV]
 by_cases i:d=[]
 ·subst i;rfl
 have r:d.length≠0:=λe=>i (List.eq_nil_of_length_eq_zero e)
 rw [if_neg (by omega),if_neg i,f,zC];obtain⟨_,_,x,y,k,l,a0,_,_⟩:=ends h i;have A:(jD d:Int)=dP d-bQ d+1:=by unfold jD;rw [k,l];omega
 rw [x,zC,qO a0 (by omega) (by decide),zC,zK,zK,zK,y,zC,qO (by omega) (by omega) (by decide),zC,<-k,<-l];simp only [zK];have s:0<=bQ d/\bQ d<=dP d/\dP d<=262143:=by rw [k,l];omega
 have o:0<=(jD d:Int)*((gV p 0).length:Int)/\(jD d:Int)*((gV p 0).length:Int)<=262144*912:=by
  refine⟨Int.mul_nonneg (by omega) (by omega),?_⟩;exact Int.mul_le_mul (by omega) (by omega) (by omega) (by omega)
 rw [wrap_i64 (n:=bQ d*16) (by omega) (by omega),wrap_i64 (n:=dP d*16) (by omega) (by omega),wrap_i64 (n:=dP d*16-bQ d*16) (by omega) (by omega),qO (by omega) (by omega) (by decide),zC,
  show(dP d*16-bQ d*16)/16=dP d-bQ d by omega,wrap_i64 (n:=dP d-bQ d+1) (by omega) (by omega),<-A,j,wrap_i64 (n:=(jD d:Int)*((gV p 0).length:Int)) (by omega) (by omega),wrap_i64 (n:=(jD d:Int)*((gV p 0).length:Int)+1) (by omega) (by omega),yV]
 by_cases c:20000<(jD d:Int)*((gV p 0).length:Int)+1
 ·rw [if_pos c,if_pos c]
 rw [if_neg c,if_neg c];have B:jD d*(gV p 0).length<=20000:=by
  have:((jD d*(gV p 0).length:Nat):Int)=(jD d:Int)*((gV p 0).length:Int):=Int.natCast_mul _ _;omega
 rw [samples_5 t q h u (jD d) s.1 (by omega) s.2.2 B,zC,wrap_i64 (n:=dP d*16+16) (by omega) (by omega),wrap_i64 (n:=64*(dP d*16+16)) (by omega) (by omega),bJ (by rw [rW,List.length_singleton];omega) (by decide),zC,
  show(64:Int)*(dP d*16+16)=(dP d+1)*1024 by omega]
theorem from_l {m:Map}{s:Str}{p:Param}{d:List gU}(hm:Fat m=some (0,0))(g:m.Params.length<=9223372036854775807)(hi:0<=pX m s)(j:m.Params[(pX m s).toNat]? =some p)(u:SzP p)(k:rE p=0)(h:aAe d)(x:Fal d=some 0):
  Fd3 m s d=some ((kS m p d).1,if (kS m p d).2=true then 0 else 3):=by
 have y:=uH k;have z:(gV p 0).length<=912:=aF y.tm 0;have l:at' m.Params (pX m s)=some p:=by
  obtain⟨i,o⟩: ∃i:Nat,pX m s=(i:Int):=⟨(pX m s).toNat,by omega⟩;rw [o]at j⊢;rw [Int.toNat_natCast]at j;exact yS j
 unfold Fd3 kS;rw [hm,zC];simp only [zK];rw [show decide ((0:Int)≠0)=false from rfl,zQ,par_idxR m g s,zC,qD (by omega),zQ,x,zC,show decide ((0:Int)≠0)=false from rfl,zQ,yV]
 by_cases f:d=[]
 ·subst f;rfl
 have v:d.length≠0:=λe=>f (List.eq_nil_of_length_eq_zero e)
 rw [if_neg (by omega),if_neg f,l,zC,one_ok u k,zC];obtain⟨_,_,A,B,q,r,a0,_,_⟩:=ends h f;have D:(jD d:Int)=dP d-bQ d+1:=by unfold jD;rw [q,r];omega
 rw [A,zC,qO a0 (by omega) (by decide),zC,B,zC,qO (by omega) (by omega) (by decide),zC,<-q,<-r];have w:0<=bQ d/\bQ d<=dP d/\dP d<=262143:=by rw [q,r];omega
 have t:0<=(jD d:Int)*((gV p 0).length:Int)/\(jD d:Int)*((gV p 0).length:Int)<=262144*912:=by
  refine⟨Int.mul_nonneg (by omega) (by omega),?_⟩;exact Int.mul_le_mul (by omega) (by omega) (by omega) (by omega)
 rw [wrap_i64 (n:=dP d-bQ d) (by omega) (by omega),wrap_i64 (n:=dP d-bQ d+1) (by omega) (by omega),<-D,wrap_i64 (n:=(jD d:Int)*((gV p 0).length:Int)) (by omega) (by omega),wrap_i64 (n:=(jD d:Int)*((gV p 0).length:Int)+1) (by omega) (by omega),yV]
 by_cases c:20000<(jD d:Int)*((gV p 0).length:Int)+1
 ·rw [if_pos c,if_pos c];rfl
 rw [if_neg c,if_neg c];have E:jD d*(gV p 0).length<=20000:=by
  have:((jD d*(gV p 0).length:Nat):Int)=(jD d:Int)*((gV p 0).length:Int):=Int.natCast_mul _ _;omega
 rw [aOh u k h (jD d) w.1 (by omega) w.2.2 E,zC,wrap_i64 (n:=dP d+1) (by omega) (by omega),wrap_i64 (n:=(dP d+1)*1024) (by omega) (by omega),bJ (by rw [rW,List.length_singleton];omega) (by decide),zC];rfl
structure aLw (b:Book):Prop where
 mp:MapOk b.Map
 ml:Fat b.Map=some (0,0)
 m2:Fai b.Map=some (0,0)
 rs:aAe b.Rests
 rl:Fal b.Rests=some 0
 sn:b.Sources.length<=30
 src: ∀(i:Nat) (x:fQ),b.Sources[i]? =some x->aIs b i x=0
def jH (b:Book)(x:fQ):Param:=(b.Map.Params[(pX b.Map x.Param).toNat]?).getD (Param.mk [] 0 [] 0 0 0 0 [])
theorem aXb {b:Book}{i:Nat}{x:fQ}(h:aIs b i x=0):0<=pX b.Map x.Param:=by
 unfold aIs at h;split at h;cases h;split at h;cases h;split at h;cases h;omega
theorem aDw {b:Book}{x:fQ} (h:0<=pX b.Map x.Param):b.Map.Params[(pX b.Map x.Param).toNat]? =some (jH b x)/\at' b.Map.Params (pX b.Map x.Param)=some (jH b x):=by
 rcases aLk (λy:Param=>decide (y.Name=x.Param)) b.Map.Params 0 with ⟨a,-⟩|⟨j,y,a,c,-,-⟩
 ·have:pX b.Map x.Param= -1:=a;omega
 ·have e:pX b.Map x.Param=(j:Int):=by rw [Nat.zero_add]at a;exact a
  have d:jH b x=y:=by unfold jH;rw [e,Int.toNat_natCast,c];rfl
  rw [e,Int.toNat_natCast,d];exact⟨c,yS c⟩
def aFa (l:List gU)(fin:Option Int):Option Int:=if 5000<l.length then some 3 else dB rsF (if aPl l=true then some 10 else fin) l 0
theorem aFp (l:List gU):(∃v:Int,v≠0/\ ∀fin,aFa l fin=some v)\/((∀fin,aFa l fin=fin)/\aWn l):=by
 unfold aFa
 by_cases a:5000<l.length
 ·exact .inl ⟨3,by decide,λfin=>by rw [if_pos a]⟩
 rcases aT rsF l 0 with ⟨j,x,v,e,b,d⟩|⟨e,d⟩
 ·unfold rsF at b;split at b
  ·cases b
  ·rename_i c;cases b;exact .inl ⟨rsM x,c,λfin=>by rw [if_neg a,d]⟩
 ·cases ho:aPl l with
  |true=>exact .inl ⟨10,by decide,λfin=>by rw [if_neg a,d];rfl⟩
  |false=>
   refine .inr ⟨λfin=>by rw [if_neg a,d];rfl,by omega,?_,ho⟩;intro _ f;obtain⟨j,g,rfl⟩:=List.mem_iff_getElem.1 f;have:=e j _ (gE g);unfold rsF at this;split at this
   ·assumption
   ·cases this
theorem fault_K (l:List gU)(fin:Option Int):(gB (aGq l) λx=>gI (decide (x≠0)) (some x) fin)=aFa l fin:=by
 have e:aGq l=aFa l (some 0):=rfl;rw [e];rcases aFp l with ⟨_,a,b⟩|⟨a,-⟩
 ·rw [b,b,zC,dT a];rfl
 ·rw [a,a,zC];rfl
def aVp (b:Book):Nat->fQ->Option (Option Int):=λi x=>if aIs b i x=0 then none else some (some (aIs b i x))
theorem bookL1 {b:Book}(a:SzB b)(fin:Option Int):Ffa b (λ_=>fin) (b.Sources.length:Int) 0=dB (aVp b) fin b.Sources 0:=by
 unfold Ffa;refine xU b.Sources _ _ a.sl (λk i x d c=>?_) (λk=>by simp only [zK,yH,zQ]);simp only [zK,yF c,zU,src_l a d,zC,fJ c a.sl];rw [yV];unfold aVp;by_cases e:aIs b i x=0;rw [if_neg (by simpa using e),if_pos e];rw [if_pos e,if_neg e]
theorem bookR1 {b:Book} (g:SzB b) (fin:Option Int):Fgx b (λ_=>fin) 0=dB (aVp b) fin b.Sources 0:=by
 unfold Fgx;refine xU b.Sources _ _ g.sl (λk i x q r=>?_) (λk=>by simp only [zK,yH,zQ]);have s:=g.ss x (qS q);have t:=g.sl;simp only [zK,xJ,yF r,zU,yS q,zC,fJ r g.sl,aUq x.Track s.tr];unfold aVp aIs
 cases aMh x.Track with
 |false=>rfl
 |true=>
  simp only [Bool.not_true,zQ,Bool.true_eq_false,if_false];unfold Fhw;have h:(b.Sources.take i).length=i:=by rw [List.length_take];omega
  rw [jQ (b.Sources.take i) (λy=>decide (y.Track=x.Track)) (some 5) (gB (Fas b.Map x.Param) λn=>gI (decide (n<0)) (some 4) (gI (decide (1<(x.Meaning.length:Int))) (some 2)
    (gI (decide ((x.Meaning.length:Int)=1)) (gB (at' x.Meaning 0) λo=>gB (Fby o) λm=>gI (decide (m≠0)) (some m) (gB (Fah x.Long 0 1099511627776) λa=>gI a (some 9) (k ((i+1:Nat):Int)))) (gB (Fah x.Long 0 1099511627776) λa=>gI a (some 9) (k ((i+1:Nat):Int)))))) (by omega)
   (λu j y g1 g2=>by
    rw [h]at g2;have p:b.Sources[j]? =some y:=by rw [List.getElem?_take]at g1;rw [if_pos g2]at g1;exact g1
    simp only [zK,yF g2,zU,yS p,zC,fJ g2 (by omega)])
   (λu=>by simp only [zK,h,yH,zQ])]
  cases((b.Sources.take i).any λy=>decide (y.Track=x.Track))with
  |true=>rfl
  |false=>
   simp only [zQ,Bool.false_eq_true,if_false];rw [par_5 b.Map g.mp.pl,zC,yV]
   by_cases c4:pX b.Map x.Param<0
   ·rw [if_pos c4,if_pos c4];rfl
   rw [if_neg c4,if_neg c4,yV]
   by_cases c2:1<x.Meaning.length
   ·rw [if_pos c2,if_pos (by omega)];rfl
   rw [if_neg c2,if_neg (by omega),out7];simp only [zC];have f: ∀z,gI (decide (x.Long<0)||decide (1099511627776<x.Long)) (some (9:Int)) z=if dC x.Long 0 1099511627776=true then some 9 else z:=by
    intro z;show gI (dC x.Long 0 1099511627776) _ _=_
    cases dC x.Long 0 1099511627776<;>rfl
   rw [f];unfold aKd;rcases hm:x.Meaning with _|⟨c,_|⟨_,_⟩⟩
   ·cases dC x.Long 0 1099511627776<;>rfl
   ·rw [show decide ((([c]:List fA).length:Int)=1)=true from rfl,zU,show at' [c] 0=some c from rfl,zC,cal_5 c (s.ms c (by rw [hm];exact List.mem_cons_self ..)),aJd,zC,yV]
    by_cases e:aGw c=0
    ·simp only [e,ne_eq,not_true,if_false]
     cases dC x.Long 0 1099511627776<;>rfl
    ·simp only [e,ne_eq,not_false_eq_true,if_true,if_false]
   ·rw [hm]at c2;simp at c2
def aGk (b:Book):Bool:=b.Sources.any λx=> !(kS b.Map (jH b x) b.Rests).2
theorem aGa {b:Book} (a:SzB b): ∃e,Fam b=some e/\Fao b=some e/\(e=0->aLw b/\aGk b=false):=by
 obtain⟨v,m1,m2,m3⟩:=map_two a.mp;unfold Fam Fao;rw [m1,m2,zC,zC];obtain⟨_,v2⟩:=v;simp only [zK,xJ]
 by_cases c0: ¬v2=0
 ·rw [dT c0];exact⟨v2,rfl,rfl,λh=>absurd h c0⟩
 have c0:v2=0:=by omega
 subst c0;obtain⟨rfl,q⟩:=m3 rfl;rw [show decide ((0:Int)≠0)=false from rfl,zQ,zQ]
 by_cases B:30<b.Sources.length
 ·rw [dT (show(30:Int)<(b.Sources.length:Int)by omega),zU,zU];exact⟨3,rfl,rfl,λh=>by cases h⟩
 rw [qD (show¬(30:Int)<(b.Sources.length:Int)by omega),zQ,zQ,bookL1 a,bookR1 a];rcases aT (aVp b) b.Sources 0 with ⟨_,x,v,g,d,l⟩|⟨g,l⟩
 ·rw [l,l];unfold aVp at d;split at d
  ·cases d
  ·rename_i c;cases d;exact⟨_,rfl,rfl,λh=>absurd h c⟩
 rw [l,l,fault_5 b.Rests a.rl a.rs];have m: ∀(i:Nat) (x:fQ),b.Sources[i]? =some x->aIs b i x=0:=by
  intro i x hi;have:=g i x hi;rw [Nat.zero_add]at this;unfold aVp at this;split at this
  ·assumption
  ·cases this
 have C:(gI (decide (5000<(b.Rests.length:Int))) (some 3) (Ffr b (λ_=>Ff8 b (λ_=>Faz b (λ_=>some 0) (b.Sources.length:Int) 0) 1) (b.Rests.length:Int) 0))=aFa b.Rests (Faz b (λ_=>some 0) (b.Sources.length:Int) 0):=by
  unfold aFa;rw [yV]
  by_cases c:5000<b.Rests.length
  ·rw [if_pos c,if_pos (by omega)]
  rw [if_neg c,if_neg (by omega)];unfold Ffr;refine xU b.Rests rsF _ a.rl (λk i x g d=>?_) (λk=>?_)
  ·have D:=a.rs x (qS g);simp only [zK,yF d,zU,yS g,zC,fJ d a.rl,aXi D];rw [yV];unfold rsF
   by_cases e:rsM x=0
   ·rw [if_neg (by simpa using e),if_pos e]
   ·rw [if_pos e,if_neg e]
  ·simp only [zK,yH,zQ];have E:=a.rl;unfold Ff8;rw [aHb b.Rests (λp=>decide (p.2.Number<=p.1.Number)) (some 10) (Faz b (λ_=>some 0) (b.Sources.length:Int) 0) a.rl]
   ·unfold aPl
    cases(vX b.Rests).any λp=>decide (p.2.Number<=p.1.Number)<;>rfl
   ·intro k i x _ g d l;simp only [zK,yF l,zU,yS d,zC,aVw (show i<=9223372036854775806 by omega),yS g,fJ l a.rl]
   ·intro k _ _;simp only [zK];rw [qD (by omega),zQ]
 rw [C,fault_K];rcases aFp b.Rests with ⟨v,g1,g2⟩|⟨g1,g2⟩
 ·rw [g2,g2];exact⟨v,rfl,rfl,λh=>absurd h g1⟩
 rw [g1,g1];have r:=rs_ok a.rs g2;have s:Fal b.Rests=some 0:=by
  rw [fault_l b.Rests a.rl a.rs];exact g1 (some 0)
 have o: ∀(i:Nat) (x:fQ),b.Sources[i]? =some x->SzP (jH b x)/\rE (jH b x)=0/\0<=pX b.Map x.Param:=by
  intro i x hi;have A:=aXb (m i x hi);have hm:=qS (aDw A).1;exact⟨a.mp.ps _ hm,(q.all _ hm).ck,A⟩
 have F:Faz b (λ_=>some 0) (b.Sources.length:Int) 0=gI (aGk b) (some 3) (some 0):=by
  unfold Faz;refine jQ b.Sources (λx=> !(kS b.Map (jH b x) b.Rests).2) (some 3) (some 0) a.sl (λk i x g d=>?_) (λk=>by simp only [zK,yH,zQ]);obtain⟨w,z,u⟩:=o i x g;simp only [zK,yF d,zU,yS g,zC,fJ d a.sl,from_l m1 a.mp.pl u (aDw u).1 w z r s]
  cases(kS b.Map (jH b x) b.Rests).2<;>rfl
 have G:Feq b (λ_=>some 0) 0=gI (aGk b) (some 3) (some 0):=by
  unfold Feq;refine jQ b.Sources (λx=> !(kS b.Map (jH b x) b.Rests).2) (some 3) (some 0) a.sl (λk i x g d=>?_) (λk=>by simp only [zK,yH,zQ]);obtain⟨w,z,u⟩:=o i x g;have t:=aDw u;have f:=aKk a.mp m2 q t.1;rw [show(((pX b.Map x.Param).toNat:Nat):Int)=pX b.Map x.Param by omega]at f;simp only [zK,yF d,zU,yS g,zC,fJ d a.sl,par_5 b.Map a.mp.pl,made_5 w z r t.2 f]
 rw [F,G]
 cases hlb:aGk b with
 |true=>exact⟨3,rfl,rfl,λh=>by cases h⟩
 |false=>exact⟨0,rfl,rfl,λ_=>⟨⟨q,m1,m2,r,s,by omega,m⟩,rfl⟩⟩
structure aYc (x:fF):Prop where
 a0:0<=x.At
 a1:x.At<=1099511627776
 n0: -1125899906842624<=x.N
 n1:x.N<=1125899906842624
 m0:0<=x.Mark
 m1:x.Mark<=4
 nm:x.N≠0->2<=x.Mark
structure SerOk (s:Series):Prop where
 den:s.Den=1
 n:s.Samples.length<=20000
 all: ∀x∈s.Samples,aYc x
 ord:s.Samples.Pairwise λa b=>a.At<b.At
theorem check_ok {s:Series} (h:SerOk s):Fct s=some 0:=by
 have j:=h.n;unfold Fct Feu
 repeat (first |rw [zK]|rw [xJ]|rw [zC])
 rw [swi,zC,h.den,show(decide ((1:Int)<=1)&&decide ((1:Int)<=1000000))=true from rfl,zK,show(!true)=false from rfl,zQ]
 repeat (first |rw [zK]|rw [xJ]|rw [zC])
 rw [qD (by omega),zQ];have d:Ff4 s (λ_=>some (-1,0)) (s.Samples.length:Int) 0=some (-1,0):=by
  unfold Ff4;refine xB (λi=>(i:Int)) s.Samples.length (by omega) rfl (λk i hi=>?_) (λk=>by simp only [zK,yH,zQ]);have b:s.Samples[i]? =some s.Samples[i]:=gE hi;have a:=h.all _ (List.getElem_mem hi);have a0:=a.a0;have a1:=a.a1;have n0:=a.n0;have n1:=a.n1;have m0:=a.m0;have m1:=a.m1;have nm:=a.nm;simp only [zK,yF hi,zU,yS b,zC,swi,nwi,xY,dM];have e:((decide (s.Samples[i].At<0)||decide (1099511627776<s.Samples[i].At))||(decide (s.Samples[i].N< -1125899906842624)||decide (1125899906842624<s.Samples[i].N))||(decide (s.Samples[i].Mark<0)||decide (4<s.Samples[i].Mark)))=false:=by
   simp only [Bool.or_eq_false_iff,decide_eq_false_iff_not];omega
  have f:(decide (s.Samples[i].N≠0)&&decide (s.Samples[i].Mark<=1))=false:=by
   rw [Bool.and_eq_false_iff,decide_eq_false_iff_not,decide_eq_false_iff_not]
   by_cases c:s.Samples[i].N=0
   ·left;simpa using c
   ·right;have:=nm c;omega
  rw [e,zQ,f,zQ]
  by_cases c:0<i
  ·rw [dT (show(0:Int)<(i:Int)by omega),zU,aOr b (by omega) c,zC];have g:s.Samples[i-1]? =some (s.Samples[i-1]'(by omega)):=gE (by omega);rw [g];have:=(List.pairwise_iff_getElem.1 h.ord) (i-1) i (by omega) hi (by omega);show gB (some (decide (s.Samples[i].At<=(s.Samples[i-1]'(by omega)).At))) _=_;rw [qD (by omega),zC,zQ,fJ hi (by omega)]
  ·rw [qD (show¬(0:Int)<(i:Int)by omega),zQ,zC,zQ,fJ hi (by omega)]
 rw [d,zC]
theorem stL_lt {p:Param}(c:bK p):(dI p).Pairwise (· < ·):=by
 unfold dI stL;have d:=aJf c;refine List.Pairwise.filter _ (List.Pairwise.map _ (λa b _=>?_) List.pairwise_lt_range);have:(a:Int)*p.Every<(b:Int)*p.Every:=Int.mul_lt_mul_of_pos_right (by omega) (by omega);omega
theorem smp_ok {m:Map}{p:Param}{a:List gU} (j:SzP p) (g:rE p=0) (h:aAe a) {base:Int} (k:0<=base) (n:base<=5000000) {c:Cell} (d:c∈gV p 0):
  aYc (aH m p a base c)/\64*base<=(aH m p a base c).At/\(aH m p a base c).At<64*(base+16):=by
 have f:=uH g;obtain⟨_,_,_,_,_,_,_,_⟩:=aUz f k n d;obtain⟨_,c2,c3⟩:=aCj f d;have o:=aWm (R:=dJ a) (base:=base) (l:=c.Places) λx q=>⟨c2 x q,aCn h _⟩
 obtain⟨v,r,d1,-,d3,d4⟩:=aPr j g (wM (dJ a) base c.Places) (by have:=aGd (dJ a) base c.Places;rw [c3]at this;rw [vI];omega);have hd:aSa p (wM (dJ a) base c.Places)=(v,r):=by unfold aSa;rw [d1];rfl
 have t1:=f.tm.t1;have E:64*(c.Index%p.Times)/p.Times<64:=by
  have:c.Index%p.Times<p.Times:=Int.emod_lt_of_pos _ (by omega);exact Int.ediv_lt_of_lt_mul (by omega) (by omega)
 have e:(aH m p a base c).At=64*(base+c.Frame)+64*(c.Index%p.Times)/p.Times:=rfl;have hm:((aH m p a base c).N,(aH m p a base c).Mark)=aKg m p (dJ a) base c.Places:=rfl;unfold aKg at hm;rw [hd]at hm;refine⟨?_,by rw [e];omega,by rw [e];omega⟩;have b: -1125899906842624<=(aH m p a base c).N/\(aH m p a base c).N<=1125899906842624/\0<=(aH m p a base c).Mark/\(aH m p a base c).Mark<=4/\((aH m p a base c).N≠0->2<=(aH m p a base c).Mark):=by
  split at hm
  ·simp only [Prod.mk.injEq]at hm;omega
  ·rename_i i;simp only [Bool.or_eq_true,not_or,decide_eq_true_eq]at i;have s:=i.1;split at hm
   ·simp only [Prod.mk.injEq]at hm;omega
   ·simp only [Prod.mk.injEq]at hm;omega
 exact⟨by rw [e];omega,by rw [e];omega,b.1,b.2.1,b.2.2.1,b.2.2.2.1,b.2.2.2.2⟩
theorem sec_ord {m:Map}{p:Param}{q:List gU} (h:tJ p) (g:Int):(aKo m p q (gV p 0) g).Pairwise λa b=>a.At<b.At:=by
 unfold aKo;rw [List.pairwise_map,List.pairwise_iff_getElem];intro i j hi r _;show qR p (g*16) (gV p 0)[i]<qR p (g*16) (gV p 0)[j];obtain⟨s,d,a2,a3⟩:=aDu (dI p) (gE hi);obtain⟨f,e,u,n⟩:=aDu (dI p) (gE r);have v:(gV p 0)[i]=Cell.mk 0 (i:Int) s (dN p s ((i%p.Times.toNat:Nat):Int)):=a2;have w:(gV p 0)[j]=Cell.mk 0 (j:Int) f (dN p f ((j%p.Times.toNat:Nat):Int)):=u;rw [v,w];unfold qR;simp only;have t1:=h.tm.t1;have t2:=h.tm.t2;obtain⟨T,x⟩: ∃T:Nat,p.Times=(T:Int):=⟨p.Times.toNat,by omega⟩;rw [x]at d a3 e n t1 t2⊢;rw [Int.toNat_natCast]at d a3 e n;have f1:(64*((i:Int)%(T:Int))/(T:Int))=((64*(i%T)/T:Nat):Int):=by norm_cast
 have f2:(64*((j:Int)%(T:Int))/(T:Int))=((64*(j%T)/T:Nat):Int):=by norm_cast
 rw [f1,f2];have g1:64*(i%T)/T<64:=Nat.div_lt_of_lt_mul (by rw [Nat.mul_comm];exact Nat.mul_lt_mul_of_pos_right a3 (by decide));have o:i/T<=j/T:=Nat.div_le_div_right (by omega)
 by_cases c:i/T=j/T
 ·rw [c]at d;rw [d]at e;obtain rfl:s=f:=by simpa using e
  have hm:i%T<j%T:=by
   have y:=Nat.div_add_mod i T;have G:=Nat.div_add_mod j T;rw [c]at y;omega
  have:64*(i%T)/T+1<=64*(j%T)/T:=by
   rw [<-Nat.add_div_right _ (by omega:0<T)];exact Nat.div_le_div_right (by omega)
  omega
 ·have z:s<f:=by
   have k:=(gS.1 d);have l:=(gS.1 e);obtain⟨C,D⟩:=k;obtain⟨E,F⟩:=l;rw [<-D,<-F];exact(List.pairwise_iff_getElem.1 (stL_lt h.tm)) _ _ C E (by omega)
  generalize 64*(i%T)/T=A at g1⊢;generalize 64*(j%T)/T=B;omega
theorem aYa {m:Map}{p:Param}{e:List gU} (i:SzP p) (f:rE p=0) (h:aAe e) {n0:Int} (n:0<=n0): ∀k:Nat,n0+(k:Int)<=262144->(∀x∈jA m p e (gV p 0) n0 k,aYc x/\x.At<1024*(n0+(k:Int)))/\(jA m p e (gV p 0) n0 k).Pairwise λa b=>a.At<b.At
 |0,_=>⟨λx d=>by simp [jA]at d,List.Pairwise.nil⟩
 |k+1,r=>by
  obtain⟨j,i2⟩:=aYa i f h n k (by omega);have l: ∀x∈aKo m p e (gV p 0) (n0+(k:Int)),aYc x/\1024*(n0+(k:Int))<=x.At/\x.At<1024*(n0+((k+1:Nat):Int)):=by
   intro x d;unfold aKo at d;obtain⟨_,g,rfl⟩:=List.mem_map.1 d;have:=smp_ok (m:=m) i f h (base:=(n0+(k:Int))*16) (by omega) (by omega) g;exact⟨this.1,by omega,by omega⟩
  rw [aIv];refine⟨λx d=>?_,List.pairwise_append.2 ⟨i2,sec_ord (uH f) _,λa o b q=>?_⟩⟩
  ·rcases mA.1 d with d|d
   ·have:=j x d;exact⟨this.1,by omega⟩
   ·have:=l x d;exact⟨this.1,this.2.2⟩
  ·have:=j a o;have:=l b q;omega
theorem aUc {m:Map}{p:Param}{d:List gU} (n:SzP p) (o:rE p=0) (h:aAe d) (g:(kS m p d).2=true):SerOk (kS m p d).1:=by
 unfold kS at g⊢;split
 ·exact⟨rfl,(by decide),(λx f=>by cases f),List.Pairwise.nil⟩
 rename_i k;rw [if_neg k]at g;split
 ·rename_i c;rw [if_pos c]at g;cases g
 rename_i c;obtain⟨_,_,_,_,i,j,a0,_,_⟩:=ends h k;have r:(jD d:Int)=dP d-bQ d+1:=by unfold jD;rw [i,j];omega
 have s:((jD d*(gV p 0).length:Nat):Int)=(jD d:Int)*((gV p 0).length:Int):=Int.natCast_mul _ _;obtain⟨l,i2⟩:=aYa (m:=m) n o h (n0:=bQ d) (by rw [i];omega) (jD d) (by rw [r,i,j];omega);refine⟨rfl,?_,λx f=>?_,List.pairwise_append.2 ⟨i2,List.pairwise_singleton _ _,λx f _ t=>?_⟩⟩
 ·show(jA m p d (gV p 0) (bQ d) (jD d)++[_]).length<=_;rw [List.length_append,rW,List.length_singleton];omega
 ·rcases mA.1 f with f|f
  ·exact(l x f).1
  ·rw [mS.1 f];have:0<=dP d/\dP d<=262143:=by rw [j];omega
   exact⟨by show 0<=(dP d+1)*1024;omega,by show(dP d+1)*1024<=_;omega,by show(_:Int)<=0;decide,by show(0:Int)<=_;decide,by show(0:Int)<=0;decide,by show(0:Int)<=4;decide,λe=>absurd rfl e⟩
 ·rw [mS.1 t];have:=(l x f).2;show x.At<(dP d+1)*1024;omega
def inL (x:Line)(v:Int):Bool:=decide (x.From<=v)&&decide (v<=x.To)
def aMq (c:fA)(v:Int):Nat->Line->Option (Option (Int×Bool)):=λ_ x=>if inL x v=true then some (some (if dC (aCf x v) c.Low c.High=true then(0,false)else(aCf x v,true)))else none
def aVo (c:fA)(v:Int):Nat->Line->Option (Option (Int×Bool)):=λ_ x=>if (inL x v&& !dC (aCf x v) c.Low c.High)=true then some (some (aCf x v,true))else none
def aGn (c:fA)(v:Int):Int×Bool:=(dB (aMq c v) (some (0,false)) c.Lines 0).getD (0,false)
theorem aGt (c:fA) (v:Int):dB (aMq c v) (some (0,false)) c.Lines 0=some (aGn c v):=by
 unfold aGn;rcases aT (aMq c v) c.Lines 0 with ⟨_,_,_,-,a,b⟩|⟨-,b⟩
 ·rw [b];unfold aMq at a;split at a
  ·cases a;rfl
  ·cases a
 ·rw [b];rfl
theorem aRa (c:fA) (v:Int): ∀(l:List Line) (i:Nat),(l.Pairwise λa b=>a.To<b.From)->dB (aVo c v) (some (0,false)) l i=dB (aMq c v) (some (0,false)) l i
 | [],_,_=>rfl
 |x::l,i,h=>by
  obtain⟨g,j⟩:=List.pairwise_cons.1 h;have e:=aRa c v l (i+1) j;rw [dB,dB];unfold aVo aMq
  by_cases d:inL x v=true
  ·cases c2:dC (aCf x v) c.Low c.High with
   |false=>simp only [d,Bool.not_false,Bool.and_true,if_true,Bool.false_eq_true,if_false]
   |true=>
    simp only [d,Bool.not_true,Bool.and_false,Bool.false_eq_true,if_false,if_true];unfold inL at d;rw [Bool.and_eq_true,decide_eq_true_eq,decide_eq_true_eq]at d;have: ∀(l:List Line) (i:Nat),(∀y∈l,x.To<y.From)->dB (aVo c v) (some (0,false)) l i=some (0,false):=by
     intro l
     induction l with
     |nil=>intro i _;rfl
     |cons y l e=>
      intro i f;rw [dB];have k:=f y (List.mem_cons_self ..);have:aVo c v i y=none:=by
       unfold aVo inL;rw [qD (by omega: ¬y.From<=v)];rfl
      rw [this];exact e (i+1) λz m=>f z (List.mem_cons_of_mem _ m)
    exact this l (i+1) g
  ·have d:inL x v=false:=by simpa using d
   simp only [d,Bool.false_and,Bool.false_eq_true,if_false];exact e
theorem lines_ord {c:fA} (h:aSd c):c.Lines.Pairwise λa b=>a.To<b.From:=by
 have f: ∀x∈c.Lines,x.From<=x.To:=by
  intro x k;have:=h.lb x k;unfold wW at this;simp only [Bool.or_eq_false_iff,decide_eq_false_iff_not]at this;omega
 have: ∀l:List Line,(∀x∈l,x.From<=x.To)->(∀(j:Nat) (x y:Line),l[j]? =some y->l[j+1]? =some x->y.To<x.From)->l.Pairwise λa b=>a.To<b.From:=by
  intro l
  induction l with
  |nil=>intro _ _;exact List.Pairwise.nil
  |cons x l d=>
   intro g i;have d:=d (λy m=>g y (List.mem_cons_of_mem _ m)) (λj a b n o=>i (j+1) a b (by simpa using n) (by simpa using o));refine List.Pairwise.cons (λz e=>?_) d
   cases l with
   |nil=>cases e
   |cons y l=>
    have:=i 0 y x rfl rfl;rcases List.mem_cons.1 e with rfl|e
    ·exact this
    ·have a:=(List.pairwise_cons.1 d).1 z e;have b:=g y (List.mem_cons_of_mem _ (List.mem_cons_self ..));omega
 exact this c.Lines f h.ord
theorem apply_s {c:fA}(h:aSd c)(v:Int):Fdn c v=some (aGn c v):=by
 have a:c.Lines.length<=9223372036854775807:=by have:=h.n2;omega
 rw [<-aGt,<-aRa c v c.Lines 0 (lines_ord h)];unfold Fdn Fjv
 repeat (first |rw [zK]|rw [xJ]|rw [zC])
 refine xU c.Lines (aVo c v) _ a (λk _ x d b=>?_) (λk=>by simp only [zK,yH,zQ]);simp only [zK,xJ,yF b,zU,yS d,zC,fJ b a,swi,Fay];unfold aVo;show gI (inL x v) (gI (decide (c.Low<=aCf x v)&&decide (aCf x v<=c.High)) (some (aCf x v,true)) _) _=_;have e:(decide (c.Low<=aCf x v)&&decide (aCf x v<=c.High))= !dC (aCf x v) c.Low c.High:=by
  unfold dC;rw [<-nwi,Bool.not_not]
 rw [e]
 cases inL x v<;>cases dC (aCf x v) c.Low c.High<;>rfl
theorem apply_5 {c:fA}(h:aSd c)(v:Int):Fcr c v=some (aGn c v):=by
 have a:c.Lines.length<=9223372036854775807:=by have:=h.n2;omega
 rw [<-aGt];unfold Fcr Fhy
 repeat (first |rw [zK]|rw [xJ]|rw [zC])
 refine xU c.Lines (aMq c v) _ a (λk _ x d b=>?_) (λk=>by simp only [zK,yH,zQ]);simp only [zK,yF b,zU,yS d,zC,fJ b a,out5,dM];unfold aMq;show gI (inL x v) (gI (dC (aCf x v) c.Low c.High) (some (0,false)) (some (aCf x v,true))) _=_
 cases inL x v<;>cases dC (aCf x v) c.Low c.High<;>rfl
theorem appM_f {c:fA}{v:Int} (h:(aGn c v).2=false):aGn c v=(0,false):=by
 have:=aGt c v;rcases aT (aMq c v) c.Lines 0 with ⟨_,_,_,-,a,b⟩|⟨-,b⟩
 ·rw [b]at this;unfold aMq at a;split at a
  ·simp only [Option.some.injEq]at a;rw [this]at a;simp only [Option.some.injEq]at a;split at a
   ·exact a.symm
   ·rw [<-a]at h;cases h
  ·cases a
 ·rw [b]at this;simp only [Option.some.injEq]at this;exact this.symm
def aAv (c:fA)(x:fF):fF:=if 2<=x.Mark then(if (aGn c x.N).2=true then fF.mk x.At (aGn c x.N).1 x.Mark else fF.mk x.At 0 1)else x
def aLn (s:Series)(c:fA):Series:=Series.mk c.Den (s.Samples.map (aAv c))
theorem meant_5 {c:fA} (h:aSd c) (s:Series) (d:s.Samples.length<=20000):Fbk s c=some (aLn s c):=by
 unfold Fbk Fie;rw [xB (r:=some (s.Samples.map (aAv c))) (λi=>((i:Int),(s.Samples.take i).map (aAv c))) s.Samples.length (by omega)]
 ·rfl
 ·rfl
 ·intro k i hi;have b:s.Samples[i]? =some s.Samples[i]:=gE hi;simp only [zK,yF hi,zU,yS b,zC,Ffu,apply_5 h,fJ hi (by omega)];have e:(gI (decide (2<=s.Samples[i].Mark)) (gI (!(aGn c s.Samples[i].N).2) (some ((aGn c s.Samples[i].N).1,(1:Int))) (some ((aGn c s.Samples[i].N).1,s.Samples[i].Mark))) (some (s.Samples[i].N,s.Samples[i].Mark)))=some ((aAv c s.Samples[i]).N,(aAv c s.Samples[i]).Mark):=by
   unfold aAv
   by_cases a:2<=s.Samples[i].Mark
   ·rw [dT a,zU,if_pos a]
    cases c2:(aGn c s.Samples[i].N).2 with
    |true=>rfl
    |false=>rw [appM_f c2];rfl
   ·rw [qD a,zQ,if_neg a]
  rw [e,zC,bJ (by rw [List.length_map,List.length_take,List.length_singleton];omega) (by decide),zC,dV b,List.map_append,List.map_singleton];have:fF.mk s.Samples[i].At (aAv c s.Samples[i]).N (aAv c s.Samples[i]).Mark=aAv c s.Samples[i]:=by
   unfold aAv;split
   ·split<;>rfl
   ·rfl
  rw [this]
 ·intro k;simp only [zK,yH,zQ,List.take_length]
theorem clone_eq (l:List fF)(h:l.length<=20000):Fb1 l=some l:=by
 unfold Fb1 nilO
 cases l with
 |nil=>rfl
 |cons _ l=>
  simp only;rw [zQ,bJ (by rw [List.length_nil];omega) (by decide),zC];rfl
theorem cal_eq {c:fA} (j:aGw c=0) (e:c.Lines.length<=9223372036854775807) {s:Series} (h:SerOk s):Fcl s c=some (aLn s c,0):=by
 have m:=h.n;have f:=cal_ok j;unfold Fcl;rw [check_ok h,zC,zK,show decide ((0:Int)≠0)=false from rfl,zQ,cal_s c e,aJd,j,zC,zK,show decide ((0:Int)≠0)=false from rfl,zQ,zK,h.den,show decide ((1:Int)≠1)=false from rfl,zQ,clone_eq _ m,zC,zK];have o:Ffj c (s.Samples.length:Int) (0,s.Samples)=some (s.Samples.map (aAv c)):=by
  unfold Ffj;refine xB (λi=>((i:Int),(s.Samples.take i).map (aAv c)++s.Samples.drop i)) s.Samples.length (by omega) rfl (λk i hi=>?_) (λk=>?_)
  ·have p:s.Samples[i]? =some s.Samples[i]:=gE hi;have g:s.Samples.drop i=s.Samples[i]::s.Samples.drop (i+1):=List.drop_eq_getElem_cons hi;have a:((s.Samples.take i).map (aAv c)).length=i:=by rw [List.length_map,List.length_take];omega
   have q:at' ((s.Samples.take i).map (aAv c)++s.Samples[i]::s.Samples.drop (i+1)) (i:Int)=some s.Samples[i]:=at_mid _ _ _ i a;have b: ∀y,set' ((s.Samples.take i).map (aAv c)++s.Samples[i]::s.Samples.drop (i+1)) (i:Int) y=some ((s.Samples.take i).map (aAv c)++y::s.Samples.drop (i+1)):=λy=>set_at _ _ _ _ i a
   have d:(s.Samples.take (i+1)).map (aAv c)++s.Samples.drop (i+1)=(s.Samples.take i).map (aAv c)++aAv c s.Samples[i]::s.Samples.drop (i+1):=by
    rw [dV p,List.map_append,List.map_singleton,List.append_assoc];rfl
   simp only [zK,yF hi,zU,g,q,b,zC,apply_s f,fJ hi (by omega),d];unfold aAv
   by_cases l:2<=s.Samples[i].Mark
   ·rw [qD (by omega: ¬s.Samples[i].Mark<2),zQ,if_pos l]
    cases c2:(aGn c s.Samples[i].N).2 with
    |true=>rfl
    |false=>rfl
   ·rw [dT (by omega:s.Samples[i].Mark<2),zU,if_neg l,zC]
  ·simp only [zK,yH,zQ,List.take_length,List.drop_length,List.append_nil]
 rw [o,zC];rfl
structure wJ (b:Book)(rs:List gU):Prop where
 ok:aAe rs
 nil:rs=[]↔b.Rests=[]
 f:bQ rs=bQ b.Rests
 l:dP rs=dP b.Rests
theorem aGo {b:Book}(h:aAe b.Rests):wJ b b.Rests:=⟨h,Iff.rfl,rfl,rfl⟩
theorem aJv {b:Book}{a:List gU} (h:wJ b a) (m:Map) (p:Param):(kS m p a).2=(kS m p b.Rests).2:=by
 have d:jD a=jD b.Rests:=by unfold jD;rw [h.f,h.l]
 unfold kS;by_cases c:a=[];rw [if_pos c,if_pos (h.nil.1 c)];rw [if_neg c,if_neg (λe=>c (h.nil.2 e)),d];split<;>rfl
theorem aYp {b:Book} (h:aAe b.Rests):Fbb b=some (if b.Rests=[]then(0,0,false)else(bQ b.Rests,dP b.Rests,true)):=by
 unfold Fbb
 repeat (first |rw [zK]|rw [xJ]|rw [zC])
 rw [yV]
 by_cases c:b.Rests=[]
 ·rw [if_pos c,if_pos (by rw [c];rfl)]
 ·have a:b.Rests.length≠0:=λe=>c (List.eq_nil_of_length_eq_zero e)
  obtain⟨_,_,d,f,g,i,a0,_,_⟩:=ends h c;rw [if_neg c,if_neg (by omega),d,zC,qO a0 (by omega) (by decide),zC]
  repeat (first |rw [zK]|rw [xJ]|rw [zC])
  rw [f,zC,qO (by omega) (by omega) (by decide),zC,g,i]
def trM (b:Book)(a:List gU)(x:fQ):Track:=Track.mk x.Track (match x.Meaning with
 | [c]=>aLn (kS b.Map (jH b x) a).1 c
 |_=>(kS b.Map (jH b x) a).1) x.Long
structure SrcOk (b:Book)(x:fQ):Prop where
 par:0<=pX b.Map x.Param
 sz:SzP (jH b x)
 ck:rE (jH b x)=0
 m1:x.Meaning.length<=1
 mc: ∀c∈x.Meaning,aGw c=0/\c.Lines.length<=9223372036854775807
 fit:(kS b.Map (jH b x) b.Rests).2=true
theorem src_ok {b:Book} (k:SzB b) (m:aLw b) (j:aGk b=false) {i:Nat}{x:fQ} (hi:b.Sources[i]? =some x):SrcOk b x:=by
 have h:=m.src i x hi;have hm:=qS hi;have n:=aXb h;have a:=qS (aDw n).1;have o:=k.ss x hm;have f:(kS b.Map (jH b x) b.Rests).2=true:=by
  unfold aGk at j;rw [List.any_eq_false]at j;have:=j x hm;simpa using this
 unfold aIs at h;split at h
 ·cases h
 split at h
 ·cases h
 split at h
 ·cases h
 split at h
 ·cases h
 rename_i c2;split at h
 ·rename_i c;exact absurd h c
 rename_i c5;refine⟨n,k.mp.ps _ a,(m.mp.all _ a).ck,by omega,λc g=>⟨?_,o.ms c g⟩,f⟩;unfold aKd at c5;rcases hmm:x.Meaning with _|⟨_,_|⟨_,_⟩⟩
 ·rw [hmm]at g;cases g
 ·rw [hmm]at g c5;rw [mS.1 g];simpa using c5
 ·rw [hmm]at c2;simp at c2
theorem made_l {b:Book}{d:List gU}{x:fQ} (v:b.Map.Params.length<=9223372036854775807) (G:aAe b.Rests) (h:wJ b d) (o:SrcOk b x) {f l:Int}{q:Bool} (r:(if b.Rests=[]then((0:Int),(0:Int),false)else(bQ b.Rests,dP b.Rests,true))=(f,l,q)):
  Fc9 b x d f l=some (trM b d x):=by
 have j:(kS b.Map (jH b x) d).2=true:=by rw [aJv h];exact o.fit
 have w:=aUc (m:=b.Map) o.sz o.ck h.ok j;obtain⟨p,H,y⟩:=parOf b v x;obtain rfl:p=jH b x:=by
  have:=y o.par;rw [(aDw o.par).1]at this;simpa using this.symm
 unfold Fc9;rw [H,zC];simp only;rw [aYp G,r,zC];simp only [zK];rw [Int.max_self,Int.min_self];have s:=one_ok o.sz o.ck;have t:(gB (gB (gI q (some (decide (f<=l))) (some false)) λA=>gI A (gB (Fdc b.Map (jH b x) d f l (decide (l=l))) λu=>some (u.Den,u.Samples)) (some (1,[])))
   λg=>some g)=some ((kS b.Map (jH b x) d).1.Den,(kS b.Map (jH b x) d).1.Samples):=by
  by_cases c:b.Rests=[]
  ·rw [if_pos c]at r
   cases r
   have:d=[]:=h.nil.2 c;subst this;rfl
  ·have E:d≠[]:=λe=>c (h.nil.1 e)
   rw [if_neg c]at r
   cases r
   obtain⟨a,_,_,_,B,C,a0,_,_⟩:=ends h.ok E;have P:(jD d:Int)=dP d-bQ d+1:=by unfold jD;rw [B,C];omega
   rw [<-h.f,<-h.l,zU,zC,dT (by rw [B,C];omega),zU,dT rfl];unfold kS at j⊢;rw [if_neg E]at j⊢;split at j
   ·cases j
   rename_i J;rw [if_neg J];have K:((jD d*(gV (jH b x) 0).length:Nat):Int)=(jD d:Int)*((gV (jH b x) 0).length:Int):=Int.natCast_mul _ _;have L:0<=dP d/\dP d<=262143:=by rw [C];omega
   unfold Fdc;rw [zK,s,zC];simp only [zK];rw [aOh o.sz o.ck h.ok (jD d) (by rw [B];omega) (by omega) L.2 (by omega),zC,zU,wrap_i64 (n:=dP d+1) (by omega) (by omega),wrap_i64 (n:=(dP d+1)*1024) (by omega) (by omega),
    bJ (by rw [rW,List.length_singleton];omega) (by decide)]
   rfl
 have D: ∀a:Option (Int×List fF),(gB a λg=>some g)=a:=λa=>by cases a<;>rfl
 rw [D]at t;rw [t,zC];simp only;have hm:Ffd x (x.Meaning.length:Int) (0,(kS b.Map (jH b x) d).1.Den,(kS b.Map (jH b x) d).1.Samples)=some ((trM b d x).Series.Den,(trM b d x).Series.Samples):=by
  unfold Ffd trM;rcases hmm:x.Meaning with _|⟨c,_|⟨e,l⟩⟩
  ·refine xB (λ_=>(0,(kS b.Map (jH b x) d).1.Den,(kS b.Map (jH b x) d).1.Samples)) 0 (by decide) rfl (λk i hi=>by omega) (λk=>rfl)
  ·have F:=o.mc c (by rw [hmm];exact List.mem_cons_self ..);refine xB (λi=>match i with
    |0=>(0,(kS b.Map (jH b x) d).1.Den,(kS b.Map (jH b x) d).1.Samples)
    |_=>(1,(aLn (kS b.Map (jH b x) d).1 c).Den,(aLn (kS b.Map (jH b x) d).1 c).Samples)) 1 (by decide) rfl (λk i hi=>?_) (λk=>rfl)
   obtain rfl:i=0:=by omega
   simp only [zK];rw [show decide ((0:Int)<(([c]:List fA).length:Int))=true from rfl,zU,show at' [c] 0=some c from rfl,zC];have:Series.mk (kS b.Map (jH b x) d).1.Den (kS b.Map (jH b x) d).1.Samples=(kS b.Map (jH b x) d).1:=rfl;rw [this,cal_eq F.1 F.2 w,zC];rfl
  ·have:=o.m1;rw [hmm]at this;simp at this
 rw [hm,zC];rfl
def sG (b:Book)(a:List gU):List Track:=b.Sources.map (trM b a)
theorem all_l {b:Book}{rs:List gU} (e:SzB b) (c:aLw b) (g:aGk b=false) (h:wJ b rs):Fb5 b rs=some (sG b rs):=by
 have j:=c.sn;unfold Fb5;rw [aYp c.rs,zC];obtain⟨f,l,q,a⟩: ∃f l q,(if b.Rests=[]then((0:Int),(0:Int),false)else(bQ b.Rests,dP b.Rests,true))=(f,l,q):=⟨_,_,_,rfl⟩;rw [a];simp only
 repeat (first |rw [zK]|rw [xJ]|rw [zC])
 unfold Fig;rw [xB (r:=some (sG b rs)) (λi=>((b.Sources.take i).map (trM b rs),(i:Int))) b.Sources.length (by omega)]
 ·rfl
 ·rfl
 ·intro k i hi;have d:b.Sources[i]? =some b.Sources[i]:=gE hi;simp only [zK,yF hi,zU,yS d,zC,made_l e.mp.pl c.rs h (src_ok e c g d) a];rw [bJ (by rw [List.length_map,List.length_take,List.length_singleton];omega) (by decide),zC,fJ hi (by omega),dV d,List.map_append,List.map_singleton]
 ·intro k;simp only [zK,yH,zQ,List.take_length];rfl
theorem all_7 {b:Book}{d:List gU} (s:SzB b) (q:aLw b) (v:aGk b=false) (h:wJ b d):Fbt b d=some (sG b d):=by
 have x:=q.sn;unfold Fbt Fis;rw [xB (r:=some (sG b d)) (λi=>((b.Sources.take i).map (trM b d),(i:Int))) b.Sources.length (by omega)]
 ·rfl
 ·rfl
 ·intro k i hi;have t:b.Sources[i]? =some b.Sources[i]:=gE hi;have g:=src_ok s q v t;have o:(kS b.Map (jH b b.Sources[i]) d).2=true:=by rw [aJv h];exact g.fit
  have u:=aUc (m:=b.Map) g.sz g.ck h.ok o;have p:=aDw g.par;have a:=aKk s.mp q.m2 q.mp p.1;rw [show(((pX b.Map b.Sources[i].Param).toNat:Nat):Int)=pX b.Map b.Sources[i].Param by have:=g.par;omega]at a;simp only [zK,yF hi,zU,yS t,zC,par_5 b.Map s.mp.pl,made_5 g.sz g.ck h.ok p.2 a];have hm:(gI (decide ((b.Sources[i].Meaning.length:Int)=1)) (gB (at' b.Sources[i].Meaning 0) λj=>gB (Fbk (kS b.Map (jH b b.Sources[i]) d).1 j) λf=>some (f.Den,f.Samples)) (some ((kS b.Map (jH b b.Sources[i]) d).1.Den,(kS b.Map (jH b b.Sources[i]) d).1.Samples)))=some ((trM b d b.Sources[i]).Series.Den,(trM b d b.Sources[i]).Series.Samples):=by
   unfold trM;rcases hmm:b.Sources[i].Meaning with _|⟨c,_|⟨_,_⟩⟩
   ·rfl
   ·have w:=g.mc c (by rw [hmm];exact List.mem_cons_self ..);rw [show decide ((([c]:List fA).length:Int)=1)=true from rfl,zU,show at' [c] 0=some c from rfl,zC,meant_5 (cal_ok w.1) _ u.n,zC]
   ·have:=g.m1;rw [hmm]at this;simp at this
  rw [hm,zC,bJ (by rw [List.length_map,List.length_take,List.length_singleton];omega) (by decide),zC,fJ hi (by omega),dV t,List.map_append,List.map_singleton];rfl
 ·intro k;simp only [zK,yH,zQ,List.take_length];rfl
def aIi (ws:List gW):List (gW×Bool):=ws.foldl (λm w=>nV m w true) []
theorem set_l (ws:List gW) (h:ws.length<=9223372036854775807):Fdu ws=some (aIi ws):=by
 unfold Fdu Fh7
 repeat (first |rw [zK]|rw [xJ]|rw [zC])
 rw [xB (r:=some (aIi ws)) (λi=>((i:Int),aIi (ws.take i))) ws.length h]
 ·rfl
 ·rfl
 ·intro k i hi;have a:ws[i]? =some ws[i]:=gE hi;simp only [zK,yF hi,zU,yS a,zC,fJ hi h];rw [dV a];unfold aIi;rw [foldl_snoc]
 ·intro k;simp only [zK,yH,zQ,List.take_length]
theorem set_7 (ws:List gW) (h:ws.length<=9223372036854775807):Ff6 ws (0,[])=some (aIi ws):=by
 unfold Ff6;refine xB (λi=>((i:Int),aIi (ws.take i))) ws.length h rfl (λk i hi=>?_) (λk=>?_);have a:ws[i]? =some ws[i]:=gE hi;simp only [zK,yF hi,zU,yS a,zC,fJ hi h];rw [dV a];unfold aIi;rw [foldl_snoc];simp only [zK,yH,zQ,List.take_length]
def nY (p:Nat->Bool)(A B:Arr 64 Int):Arr 64 Int:=⟨(List.range 64).map λk=>if p k=true then A.l.getD k 0 else B.l.getD k 0,by rw [List.length_map,List.length_range]⟩
theorem aDh {A B:Arr 64 Int} (h: ∀k,k<64->A.l.getD k 0=B.l.getD k 0):A=B:=by
 have:A.l=B.l:=by
  apply List.ext_getElem?;intro k
  by_cases c:k<64
  ·have:=h k c;rw [List.getD_eq_getElem?_getD,List.getD_eq_getElem?_getD,gE (by rw [A.h];exact c),gE (by rw [B.h];exact c)]at this;rw [gE (by rw [A.h];exact c),gE (by rw [B.h];exact c)];exact congrArg some this
  ·rw [List.getElem?_eq_none (by rw [A.h];omega),List.getElem?_eq_none (by rw [B.h];omega)]
 cases A;cases B;cases this;rfl
theorem tN (p:Nat->Bool)(A B:Arr 64 Int){k:Nat}(a:k<64):(nY p A B).l.getD k 0=if p k=true then A.l.getD k 0 else B.l.getD k 0:=by
 unfold nY;rw [List.getD_eq_getElem?_getD,List.getElem?_map,List.getElem?_range a];rfl
theorem aWj (A:Arr 64 Int){i k:Nat}(a:k<64)(v:Int):(Arr.set A (i:Int) v).l.getD k 0=if i=k then v else A.l.getD k 0:=by
 show(A.l.set (i:Int).toNat v).getD k 0=_;rw [Int.toNat_natCast,List.getD_eq_getElem?_getD,List.getElem?_set];by_cases c:i=k;rw [if_pos c,if_pos c,if_pos (by rw [A.h];omega)];rfl;rw [if_neg c,if_neg c,List.getD_eq_getElem?_getD]
def dL (s:List (gW×Bool))(n:Int)(k:Nat):Bool:=kT s (gW.mk n (k:Int)) false
def bW:Arr 64 Int:=Arr.rep 64 0
theorem aYk {k:Nat}(a:k<64):bW.l.getD k 0=0:=by
 show(List.replicate 64 (0:Int)).getD k 0=0;rw [List.getD_eq_getElem?_getD,List.getElem?_replicate];split<;>rfl
theorem aCz (A:Arr 64 Int){i:Nat}(hi:i<64):at' A.l (i:Int)=some (A.l.getD i 0):=by
 rw [aEn,List.getD_eq_getElem?_getD,gE (by rw [A.h];exact hi)];rfl
def aAw (s:List (gW×Bool))(r:gU):gU:=gU.mk r.Number (nY (dL s r.Number) r.Frame bW) (nY (dL s r.Number) r.States bW) false 0 false
def aBa (s:List (gW×Bool))(r:gU):gU:=gU.mk r.Number (nY (dL s r.Number) r.Frame bW) (nY (dL s r.Number) r.States bW) r.Sound r.Copies r.Conflict
theorem words_l (s:List (gW×Bool)) (r:gU):Ffl s r (0,bW,bW)=some (nY (dL s r.Number) r.Frame bW,nY (dL s r.Number) r.States bW):=by
 unfold Ffl;refine xB (λi=>((i:Int),nY (λk=>decide (k<i)&&dL s r.Number k) r.Frame bW,nY (λk=>decide (k<i)&&dL s r.Number k) r.States bW)) 64 (by decide) ?_ (λk i hi=>?_) (λk=>?_)
 ·have e: ∀A:Arr 64 Int,bW=nY (λk=>decide (k<0)&&dL s r.Number k) A bW:=λA=>aDh λk a=>by rw [tN _ _ _ a,qD (by omega)];rfl
  rw [<-e,<-e];rfl
 ·have step: ∀A:Arr 64 Int,nY (λk=>decide (k<i+1)&&dL s r.Number k) A bW=if dL s r.Number i=true then Arr.set (nY (λk=>decide (k<i)&&dL s r.Number k) A bW) (i:Int) (A.l.getD i 0)else nY (λk=>decide (k<i)&&dL s r.Number k) A bW:=by
   intro A;refine aDh λk a=>?_
   rw [tN _ _ _ a]
   by_cases c:dL s r.Number i=true
   ·rw [if_pos c,aWj _ a,tN _ _ _ a]
    by_cases e:i=k
    ·subst e;rw [if_pos rfl,dT (by omega),Bool.true_and,if_pos c]
    ·rw [if_neg e,show decide (k<i+1)=decide (k<i)from decide_eq_decide.2 (by omega)]
   ·rw [if_neg c,tN _ _ _ a]
    by_cases e:i=k
    ·subst e;have c:dL s r.Number i=false:=by simpa using c
     rw [c,Bool.and_false,Bool.and_false]
    ·rw [show decide (k<i+1)=decide (k<i)from decide_eq_decide.2 (by omega)]
  simp only [zK];rw [dT (by omega:(i:Int)<64),zU,aCz r.States hi,zC,aCz r.Frame hi,zC,aCz _ hi,zC,aCz _ hi,zC,fJ (n:=64) hi (by decide),step,step];show gB (gI (dL s r.Number i) _ _) _=_
  cases dL s r.Number i<;>rfl
 ·have e: ∀A:Arr 64 Int,nY (λk=>decide (k<64)&&dL s r.Number k) A bW=nY (dL s r.Number) A bW:=λA=>aDh λk a=>by rw [tN _ _ _ a,tN _ _ _ a,dT a,Bool.true_and]
  show some (nY (λk=>decide (k<64)&&dL s r.Number k) r.Frame bW,nY (λk=>decide (k<64)&&dL s r.Number k) r.States bW)=_;rw [e,e]
theorem words_7 (s:List (gW×Bool)) (r:gU):Ffs s r (0,r.Frame,r.States)=some (nY (dL s r.Number) r.Frame bW,nY (dL s r.Number) r.States bW):=by
 unfold Ffs;refine xB (λi=>((i:Int),nY (λk=>decide (k<i)&& !dL s r.Number k) bW r.Frame,nY (λk=>decide (k<i)&& !dL s r.Number k) bW r.States)) 64 (by decide) ?_ (λk i hi=>?_) (λk=>?_)
 ·have e: ∀A:Arr 64 Int,A=nY (λk=>decide (k<0)&& !dL s r.Number k) bW A:=λA=>aDh λk a=>by rw [tN _ _ _ a,qD (by omega)];rfl
  rw [<-e,<-e];rfl
 ·have step: ∀A:Arr 64 Int,nY (λk=>decide (k<i+1)&& !dL s r.Number k) bW A=if dL s r.Number i=true then nY (λk=>decide (k<i)&& !dL s r.Number k) bW A else Arr.set (nY (λk=>decide (k<i)&& !dL s r.Number k) bW A) (i:Int) 0:=by
   intro A;refine aDh λk a=>?_
   rw [tN _ _ _ a]
   by_cases c:dL s r.Number i=true
   ·rw [if_pos c,tN _ _ _ a]
    by_cases e:i=k
    ·subst e;rw [c,Bool.not_true,Bool.and_false,Bool.and_false]
    ·rw [show decide (k<i+1)=decide (k<i)from decide_eq_decide.2 (by omega)]
   ·rw [if_neg c,aWj _ a,tN _ _ _ a];have c:dL s r.Number i=false:=by simpa using c
    by_cases e:i=k
    ·subst e;rw [if_pos rfl,dT (by omega),Bool.true_and,c];exact aYk a
    ·rw [if_neg e,show decide (k<i+1)=decide (k<i)from decide_eq_decide.2 (by omega)]
  simp only [zK];rw [dT (by omega:(i:Int)<64),zU,aCz _ hi,zC,aCz _ hi,zC,fJ (n:=64) hi (by decide),step,step];show gB (gI (!dL s r.Number i) _ _) _=_
  cases dL s r.Number i<;>rfl
 ·have e: ∀A:Arr 64 Int,nY (λk=>decide (k<64)&& !dL s r.Number k) bW A=nY (dL s r.Number) A bW:=λA=>aDh λk a=>by
   rw [tN _ _ _ a,tN _ _ _ a,dT a,Bool.true_and]
   cases dL s r.Number k<;>rfl
  show some (nY (λk=>decide (k<64)&& !dL s r.Number k) bW r.Frame,nY (λk=>decide (k<64)&& !dL s r.Number k) bW r.States)=_;rw [e,e]
theorem only_l (a:List gU) (s:List (gW×Bool)) (h:a.length<=5000):Fcf a s=some (a.map (aAw s)):=by
 unfold Fcf Fjw
 repeat (first |rw [zK]|rw [xJ]|rw [zC])
 rw [xB (r:=some (a.map (aAw s))) (λi=>((a.take i).map (aAw s),(i:Int))) a.length (by omega)]
 ·rfl
 ·rfl
 ·intro k i hi;have b:a[i]? =some a[i]:=gE hi;have c:=words_l s a[i];unfold bW at c;simp only [zK,yF hi,zU,yS b,zC,c];rw [bJ (by rw [List.length_map,List.length_take,List.length_singleton];omega) (by decide),zC,fJ hi (by omega),dV b,List.map_append,List.map_singleton];rfl
 ·intro k;simp only [zK,yH,zQ,List.take_length]
theorem kept_7 (b:Book) (ws:List gW) (h:b.Rests.length<=5000) (c:ws.length<=9223372036854775807):Fc7 b ws=some (b.Rests.map (aBa (aIi ws))):=by
 unfold Fc7;rw [set_7 ws c,zC];unfold Fgz;rw [xB (r:=some (b.Rests.map (aBa (aIi ws)))) (λi=>((b.Rests.take i).map (aBa (aIi ws)),(i:Int))) b.Rests.length (by omega)];rfl;rfl;intro k i hi;have a:b.Rests[i]? =some b.Rests[i]:=gE hi;simp only [zK,yF hi,zU,yS a,zC,words_7];rw [bJ (by rw [List.length_map,List.length_take,List.length_singleton];omega) (by decide),zC,fJ hi (by omega),dV a,List.map_append,List.map_singleton];rfl;intro k;simp only [zK,yH,zQ,List.take_length]
theorem aDd {b:Book} (e:aAe b.Rests) (f:gU->gU) (d: ∀r,(f r).Number=r.Number) (g: ∀r,qI r->qI (f r)):wJ b (b.Rests.map f):=by
 refine⟨⟨by rw [List.length_map];exact e.n,?_,?_⟩,by rw [List.map_eq_nil_iff],?_,?_⟩
 ·intro r i;obtain⟨q,j,rfl⟩:=List.mem_map.1 i;have:=e.good q j;rw [d];exact⟨g q this.1,this.2⟩
 ·unfold Srt;rw [List.pairwise_map];exact List.Pairwise.imp (λ {_ _} h=>by rw [d,d];exact h) e.srt
 ·unfold bQ;rw [List.head?_map]
  cases b.Rests.head? with
  |none=>rfl
  |some r=>show(f r).Number/16=r.Number/16;rw [d]
 ·unfold dP;rw [List.getLast?_map]
  cases b.Rests.getLast? with
  |none=>rfl
  |some r=>show(f r).Number/16=r.Number/16;rw [d]
theorem aFx (p:Nat->Bool) {A:Arr 64 Int}{m:Int} (h: ∀x∈A.l,0<=x/\x<=m) (hm:0<=m): ∀x∈(nY p A bW).l,0<=x/\x<=m:=by
 intro x c;unfold nY at c;obtain⟨k,b,rfl⟩:=List.mem_map.1 c;have b:=List.mem_range.1 b;split;have a:k<A.l.length:=by rw [A.h];exact b
 rw [List.getD_eq_getElem?_getD,gE a];exact h _ (List.getElem_mem a);rw [aYk b];omega
theorem aLo (s:List (gW×Bool))(r:gU)(h:qI r):qI (aAw s r):=
 ⟨λx a=>by have:=aFx (dL s r.Number) (A:=r.Frame) (m:=65535) (λx a=>by have:=h.fr x a;omega) (by decide) x a;omega,aFx _ h.st (by decide)⟩
theorem aMb (s:List (gW×Bool))(r:gU)(h:qI r):qI (aBa s r):=
 ⟨λx a=>by have:=aFx (dL s r.Number) (A:=r.Frame) (m:=65535) (λx a=>by have:=h.fr x a;omega) (by decide) x a;omega,aFx _ h.st (by decide)⟩
theorem smp_congr {m:Map}{p:Param}{R a:Int->gU}(b: ∀n k,frN (R n) k=frN (a n) k)(c: ∀n k,stN (R n) k=stN (a n) k)(base:Int)(l:List fH):aKg m p R base l=aKg m p a base l:=by
 have d:loM R base l=loM a base l:=by unfold loM;simp only [c]
 have e:badM m.Version R base l=badM m.Version a base l:=by unfold badM;simp only [b]
 have f:wM R base l=wM a base l:=by
  unfold wM;have:vst R base=vst a base:=by funext v x;unfold vst;rw [b]
  rw [this]
 unfold aKg;rw [d,e,f]
theorem aJs {l:List gU} (i:Srt l) (f:gU->gU) (b: ∀r,(f r).Number=r.Number) (n:Int):dJ (l.map f) n=if ∃r∈l,r.Number=n then f (dJ l n)else qH:=by
 have g:Srt (l.map f):=by
  unfold Srt;rw [List.pairwise_map];exact List.Pairwise.imp (λ {_ c} h=>by rw [b,b];exact h) i
 by_cases c: ∃r∈l,r.Number=n
 ·rw [if_pos c];obtain⟨r,d,e⟩:=c;rw [mM i d e];exact mM g (List.mem_map_of_mem d) (by rw [b];exact e)
 ·rw [if_neg c];refine mY λr d e=>?_
  obtain⟨q,j,rfl⟩:=List.mem_map.1 d;exact c ⟨q,j,by rw [<-b];exact e⟩
theorem aQz {b:Book}(i:aAe b.Rests)(s:List (gW×Bool)):sG b (b.Rests.map (aAw s))=sG b (b.Rests.map (aBa s)):=by
 have a:=aDd i (aAw s) (λ_=>rfl) (aLo s);have d:=aDd i (aBa s) (λ_=>rfl) (aMb s);have g: ∀n,(∀k,frN (dJ (b.Rests.map (aAw s)) n) k=frN (dJ (b.Rests.map (aBa s)) n) k)/\ ∀k,stN (dJ (b.Rests.map (aAw s)) n) k=stN (dJ (b.Rests.map (aBa s)) n) k:=by
  intro n;rw [aJs i.srt (aAw s) (λ_=>rfl),aJs i.srt (aBa s) (λ_=>rfl)];split
  ·exact⟨λ_=>rfl,λ_=>rfl⟩
  ·exact⟨λ_=>rfl,λ_=>rfl⟩
 have h: ∀p,kS b.Map p (b.Rests.map (aAw s))=kS b.Map p (b.Rests.map (aBa s)):=by
  intro p;have m:jD (b.Rests.map (aAw s))=jD (b.Rests.map (aBa s)):=by unfold jD;rw [a.f,a.l,d.f,d.l]
  have hm: ∀n0 k,jA b.Map p (b.Rests.map (aAw s)) (gV p 0) n0 k=jA b.Map p (b.Rests.map (aBa s)) (gV p 0) n0 k:=by
   intro n0 k;unfold jA aKo
   congr 1
   funext j
   congr 1
   funext c
   unfold aH;rw [smp_congr (λn k=>(g n).1 k) (λn k=>(g n).2 k)]
  unfold kS;rw [m,hm,a.f,a.l,d.f,d.l]
  by_cases c:b.Rests=[]
  ·rw [if_pos (a.nil.2 c),if_pos (d.nil.2 c)]
  ·rw [if_neg (λe=>c (a.nil.1 e)),if_neg (λe=>c (d.nil.1 e))]
 unfold sG
 congr 1
 funext x
 unfold trM;rw [h]
def aCq (w:gW):Bool:=dC w.Number 0 4194303||dC w.Word 0 63
def aAa (ws:List gW):Int:=if 320000<ws.length then 3 else if ws.any aCq=true then 9 else 0
theorem wf_l (ws:List gW) (h:ws.length<=9223372036854775807):Fbq ws=some (aAa ws):=by
 unfold Fbq aAa
 repeat (first |rw [zK]|rw [xJ]|rw [zC])
 rw [yV]
 by_cases c:320000<ws.length
 ·rw [if_pos c,if_pos (by omega)]
 rw [if_neg c,if_neg (by omega)];unfold Fiv;rw [jQ ws aCq (some 9) (some 0) h]
 ·cases ws.any aCq<;>rfl
 ·intro k _ w b a;simp only [zK,yF a,zU,yS b,zC,fJ a h,Fgy,fwi,nwi,xY];show gB (gI (aCq w) (some 9) (some 0)) _=_
  cases aCq w<;>rfl
 ·intro k;simp only [zK,yH,zQ]
theorem wf_7 (ws:List gW) (h:ws.length<=9223372036854775807):Fc5 ws=some (if ws.any aCq=true then 9 else 0):=by
 unfold Fc5 Fg4
 repeat (first |rw [zK]|rw [xJ]|rw [zC])
 rw [jQ ws aCq (some 9) (some 0) h]
 ·cases ws.any aCq<;>rfl
 ·intro k _ _ b a;simp only [zK,yF a,zU,yS b,zC,fJ a h,out7,xY];rfl
 ·intro k;simp only [zK,yH,zQ]
theorem aYe {b:Book}{e:Int}(a:Fao b=some e)(ws:List gW)(h:ws.length<=9223372036854775807):Fbz b ws=some (if e≠0 then e else aAa ws):=by
 unfold Fbz aAa;rw [a,zC]
 repeat (first |rw [zK]|rw [xJ]|rw [zC])
 rw [yV]
 by_cases c:e≠0
 ·rw [if_pos c,if_pos c]
 rw [if_neg c,if_neg c,yV]
 by_cases c2:320000<ws.length
 ·rw [if_pos c2,if_pos (by omega)]
 ·rw [if_neg c2,if_neg (by omega),wf_7 ws h,zC]
structure WordsOk (ws:List gW):Prop where
 n:ws.length<=320000
 all: ∀w∈ws,0<=w.Number/\w.Number<=4194303/\0<=w.Word/\w.Word<=63
theorem words_ok {ws:List gW}(h:aAa ws=0):WordsOk ws:=by
 unfold aAa at h;split at h
 ·cases h
 rename_i _;split at h
 ·cases h
 rename_i c2;refine⟨by omega,λw a=>?_⟩;have:aCq w=false:=by
  cases hb:aCq w with
  |false=>rfl
  |true=>exact absurd (List.any_eq_true.2 ⟨w,a,hb⟩) c2
 unfold aCq at this;rw [Bool.or_eq_false_iff,aBi,aBi]at this;omega
theorem state_7 {b:Book} (a:aAe b.Rests) {w:gW} (e:0<=w.Word) (g:w.Word<=63):Fdm b w=some (stN (dJ b.Rests w.Number) w.Word):=by
 have c:b.Rests.length<=9223372036854775807:=by have:=a.n;omega
 unfold Fdm Fjn
 repeat (first |rw [zK]|rw [xJ]|rw [zC])
 rw [xU b.Rests (λ_ r=>if decide (r.Number=w.Number)=true then some (some (stN r w.Word))else none) (some 0) c]
 ·rw [aEx w.Number (λr=>stN r w.Word)];unfold dJ
  cases b.Rests.find? λr=>decide (r.Number=w.Number)with
  |some r=>rfl
  |none=>
   obtain⟨i,hi⟩: ∃i:Nat,w.Word=(i:Int):=⟨w.Word.toNat,by omega⟩;show some 0=some (stN qH w.Word);rw [hi];unfold stN qH;rw [Int.toNat_natCast,List.getD_eq_getElem?_getD];show some (0:Int)=some ((List.replicate 64 (0:Int))[i]?.getD 0);rw [List.getElem?_replicate];split<;>rfl
 ·intro f i r d hi;obtain⟨s1,-⟩:=aJz (a.good r (qS d)).1 e (by omega:w.Word<64);simp only [zK,yF hi,zU,yS d,zC,fJ hi c,s1]
  cases decide (r.Number=w.Number)<;>rfl
 ·intro f;simp only [zK,yH,zQ]
theorem search_eq {l:List gU} (m:aAe l) {n:Int} (n0:0<=n) (I:n<=4194303):Fe2 l n (0,(l.length:Int))=some (((l.takeWhile λr=>decide (r.Number<n)).length:Nat):Int):=by
 have v:=m.n;have o:=aHo (λr:gU=>decide (r.Number<n)) l;have f: ∀h:Nat,(hh:h<l.length)->(h<(l.takeWhile λr=>decide (r.Number<n)).length↔l[h].Number<n):=by
  intro h hh;constructor
  ·intro q;have:=aGx (q:=λr:gU=>decide (r.Number<n)) q (gE hh);simpa using this
  ·intro q
   by_cases c:h<(l.takeWhile λr=>decide (r.Number<n)).length
   ·exact c
   ·exfalso;have w:(l.takeWhile λr=>decide (r.Number<n)).length<l.length:=by omega
    have:=aHh (q:=λr:gU=>decide (r.Number<n)) (gE w);rw [decide_eq_false_iff_not]at this
    by_cases e:(l.takeWhile λr=>decide (r.Number<n)).length=h
    ·simp only [e]at this;omega
    ·have:=(List.pairwise_iff_getElem.1 m.srt) _ _ w hh (by omega);omega
 generalize (l.takeWhile λr=>decide (r.Number<n)).length=L at *
 have p: ∀B:(Int×Int->Option Int)->Int×Int->Option Int,(∀k (i j:Int),B k (i,j)=gI (decide (i<j)) (gB (wL .u64 (IntKind.u64.wrap (IntKind.i64.wrap (i+j))) 1) λx=>gB (at' l (IntKind.i64.wrap x)) λr=>gI (decide (IntKind.i64.wrap (r.Number-n)<0)) (k (IntKind.i64.wrap (IntKind.i64.wrap x+1),j)) (k (i,IntKind.i64.wrap x))) (some i))->
   ∀(d a i j:Nat),j-i<=d->d<a->i<=L->L<=j->j<=l.length->aX B a ((i:Int),(j:Int))=some (L:Int):=by
  intro B y d
  induction d with
  |zero=>
   intro a i j E F z A C;obtain⟨a,rfl⟩: ∃k,a=k+1:=⟨a-1,by omega⟩;rw [aX,y,qD (by omega),zQ]
   congr 1;omega
  |succ d D=>
   intro a i j E F z A C;obtain⟨a,rfl⟩: ∃k,a=k+1:=⟨a-1,by omega⟩;rw [aX,y]
   by_cases c:i<j
   ·have hh:(i+j)/2<l.length:=by omega
    have s:IntKind.i64.wrap ((i:Int)+(j:Int))=((i+j:Nat):Int):=by rw [wrap_i64 (by omega) (by omega)];omega
    have t:IntKind.u64.wrap ((i+j:Nat):Int)=((i+j:Nat):Int):=wrapn_u64 _ (by omega) (by omega);have G:wL .u64 ((i+j:Nat):Int) 1=some (((i+j)/2:Nat):Int):=wR (b:=1) (by decide);have u:IntKind.i64.wrap (((i+j)/2:Nat):Int)=(((i+j)/2:Nat):Int):=wrap_i64 (by omega) (by omega);have H:l[(i+j)/2]? =some l[(i+j)/2]:=gE hh;have J:=(m.good _ (List.getElem_mem hh)).2;have g:=f _ hh;rw [dT (by omega:(i:Int)<(j:Int)),zU,s,t,G,zC,u,yS H,zC,wrap_i64 (n:=l[(i+j)/2].Number-n) (by omega) (by omega),wrap_i64 (n:=(((i+j)/2:Nat):Int)+1) (by omega) (by omega)]
    by_cases q:l[(i+j)/2].Number<n
    ·rw [dT (by omega:l[(i+j)/2].Number-n<0),zU];have:=D a ((i+j)/2+1) j (by omega) (by omega) (by have:=g.2 q;omega) A C;exact this
    ·rw [qD (by omega: ¬l[(i+j)/2].Number-n<0),zQ];have: ¬(i+j)/2<L:=λe=>q (g.1 e)
     exact D a i ((i+j)/2) (by omega) (by omega) z (by omega) (by omega)
   ·rw [qD (by omega),zQ]
    congr 1;omega
 have e: ∀B:(Int×Int->Option Int)->Int×Int->Option Int,gZ B (0,(l.length:Int))=aX B FU (((0:Nat):Int),(l.length:Int)):=λB=>rfl
 unfold Fe2;rw [e];exact p _ (λk i j=>rfl) l.length FU 0 l.length (by omega) (by unfold FU;omega) (by omega) o (Nat.le_refl _)
theorem state_l {b:Book} (a:aAe b.Rests) {w:gW} (n0:0<=w.Number) (l:w.Number<=4194303) (m:0<=w.Word) (u:w.Word<=63):Feg b w=some (stN (dJ b.Rests w.Number) w.Word):=by
 have j:=a.n;have o:=aHo (λr:gU=>decide (r.Number<w.Number)) b.Rests;unfold Feg Fgf;simp only [zK];rw [search_eq a n0 l,zC];have k: ∀r∈b.Rests,r.Number=w.Number-> ∃hh:(b.Rests.takeWhile λr=>decide (r.Number<w.Number)).length<b.Rests.length,b.Rests[(b.Rests.takeWhile λr=>decide (r.Number<w.Number)).length]=r:=by
  intro r d g;obtain⟨i,hi,rfl⟩:=List.mem_iff_getElem.1 d;have p: ¬i<(b.Rests.takeWhile λr=>decide (r.Number<w.Number)).length:=by
   intro c;have:=aGx (q:=λr:gU=>decide (r.Number<w.Number)) c (gE hi);simp at this;omega
  have h:(b.Rests.takeWhile λr=>decide (r.Number<w.Number)).length<b.Rests.length:=by omega
  refine⟨h,?_⟩;have s:=aHh (q:=λr:gU=>decide (r.Number<w.Number)) (gE h);rw [decide_eq_false_iff_not]at s
  by_cases e:(b.Rests.takeWhile λr=>decide (r.Number<w.Number)).length=i
  ·simp only [e]
  ·have:=(List.pairwise_iff_getElem.1 a.srt) _ _ h hi (by omega);omega
 generalize hLL:(b.Rests.takeWhile λr=>decide (r.Number<w.Number)).length=L at *
 by_cases c:L<b.Rests.length
 ·have g:b.Rests[L]? =some b.Rests[L]:=gE c;have t:=a.good _ (List.getElem_mem c);rw [yF c,zU,yS g,zC];unfold Fec;simp only [zK,zC];rw [wrap_i64 (by omega) (by omega)]
  by_cases q:b.Rests[L].Number=w.Number
  ·rw [dT (by omega:b.Rests[L].Number-w.Number=0)];show gB (at' b.Rests (L:Int)) _=_;rw [yS g,zC,mM a.srt (List.getElem_mem c) q,(aJz t.1 m (by omega)).1,zC]
  ·rw [qD (by omega: ¬b.Rests[L].Number-w.Number=0)];show some (0:Int)=_;rw [mY (λr d f=>by obtain⟨_,e⟩:=k r d f;rw [e]at q;exact q f)];obtain⟨i,hi⟩: ∃i:Nat,w.Word=(i:Int):=⟨w.Word.toNat,by omega⟩;rw [hi];unfold stN qH;rw [Int.toNat_natCast,List.getD_eq_getElem?_getD];show some (0:Int)=some ((List.replicate 64 (0:Int))[i]?.getD 0);rw [List.getElem?_replicate];split<;>rfl
 ·rw [qD (by omega: ¬(L:Int)<(b.Rests.length:Int))];show some (0:Int)=_;rw [mY (λr d f=>by obtain⟨e,_⟩:=k r d f;exact c e)];obtain⟨i,hi⟩: ∃i:Nat,w.Word=(i:Int):=⟨w.Word.toNat,by omega⟩;rw [hi];unfold stN qH;rw [Int.toNat_natCast,List.getD_eq_getElem?_getD];show some (0:Int)=some ((List.replicate 64 (0:Int))[i]?.getD 0);rw [List.getElem?_replicate];split<;>rfl
def aKx (b:Book)(w:gW):Bool:=decide (2<=stN (dJ b.Rests w.Number) w.Word)
theorem solid_two {b:Book} (j:SzB b) (ws:List gW) (f:ws.length<=9223372036854775807): ∃r:List Bool×Int,Fdo b ws=some r/\Fda b ws=some r/\r.1.length<=320000:=by
 obtain⟨e,l,m,n⟩:=aGa j;unfold Fdo Fda;rw [l,aYe m ws f,zC,zC]
 repeat (first |rw [zK]|rw [xJ]|rw [zC])
 by_cases c:e≠0
 ·rw [if_pos c,dT c];exact⟨([],e),rfl,rfl,by show(0:Nat)<=_;omega⟩
 rw [if_neg c,qD c,zQ,wf_l ws f,zC]
 repeat (first |rw [zK]|rw [xJ]|rw [zC])
 by_cases c2:aAa ws≠0
 ·rw [dT c2];exact⟨([],aAa ws),rfl,rfl,by show(0:Nat)<=_;omega⟩
 obtain⟨h,_⟩:=n (by omega);obtain⟨o,a⟩:=words_ok (ws:=ws) (by omega);rw [qD c2,zQ,zQ];have p:Fgw b ws (ws.length:Int) ([],0)=some (ws.map (aKx b)):=by
  unfold Fgw;refine xB (λi=>((ws.take i).map (aKx b),(i:Int))) ws.length f rfl (λk i hi=>?_) (λk=>?_)
  ·have g:ws[i]? =some ws[i]:=gE hi;have d:=a _ (List.getElem_mem hi);simp only [zK,yF hi,zU,yS g,zC,Ffn,state_l h.rs d.1 d.2.1 d.2.2.1 d.2.2.2];rw [bJ (by rw [List.length_map,List.length_take,List.length_singleton];omega) (by decide),zC,fJ hi f,dV g,List.map_append,List.map_singleton];rfl
  ·simp only [zK,yH,zQ,List.take_length]
 have q:Fft b ws ([],0)=some (ws.map (aKx b)):=by
  unfold Fft;refine xB (λi=>((ws.take i).map (aKx b),(i:Int))) ws.length f rfl (λk i hi=>?_) (λk=>?_)
  ·have g:ws[i]? =some ws[i]:=gE hi;have d:=a _ (List.getElem_mem hi);simp only [zK,yF hi,zU,yS g,zC,Fgj,state_7 h.rs d.2.2.1 d.2.2.2];rw [bJ (by rw [List.length_map,List.length_take,List.length_singleton];omega) (by decide),zC,fJ hi f,dV g,List.map_append,List.map_singleton];rfl
  ·simp only [zK,yH,zQ,List.take_length]
 rw [p,q,zC];exact⟨_,rfl,rfl,by show(ws.map (aKx b)).length<=_;rw [List.length_map];exact o⟩
theorem app1 (p q:List Int)(h:p.length+q.length<=140737488355328):app' 1 p q=some (p++q):=by
 unfold app';rw [if_pos ⟨by rw [Go.OB.maxLen_eq];omega,by omega⟩]
theorem aEe (p:List Int)(n:Int)(a:0<=n/\n<=18446744073709551615)(h:p.length+20<=140737488355328): ∃q,Fba p n 10=some q/\q.length<=p.length+20:=by
 unfold Fba;rw [if_pos ⟨rfl,a.1,a.2,h⟩];refine⟨_,rfl,?_⟩;rw [List.length_append,aBd,Lib.decDigits_length];have:=Lib.nDigits_le20 n.toNat (by omega);omega
theorem aYo (n:Int):0<=IntKind.u64.wrap n/\IntKind.u64.wrap n<=18446744073709551615:=by
 rw [IntKind.wrap_u64];omega
theorem aPh (p:List Int) (n:Int) (h:p.length+21<=140737488355328): ∃q,Fdz p n 10=some q/\q.length<=p.length+21:=by
 have e: ∃q,Fcn p n 10=some q/\q.length<=p.length+21:=by
  unfold Fcn;simp only [zK,yV]
  by_cases c:n<0
  ·have d:=app1 p [45] (by simp;omega);rw [if_pos c,d,zC,zC];obtain⟨q,a,b⟩:=aEe (p++[45]) (IntKind.u64.wrap (-IntKind.u64.wrap n)) (aYo _) (by simp;omega);simp only [];rw [a,zC];exact⟨q,rfl,by simp at b;omega⟩
  ·rw [if_neg c,zC];obtain⟨q,a,b⟩:=aEe p (IntKind.u64.wrap n) (aYo _) (by omega);simp only [];rw [a,zC];exact⟨q,rfl,by omega⟩
 obtain⟨q,a,b⟩:=e;unfold Fdz;rw [a,zC];exact⟨q,rfl,b⟩
def Gr (r:Option gJ)(n:Nat):Prop:= ∃q,r=some q/\q.out.length<=n
theorem Gr.bind {a:Option gJ}{k:gJ->Option gJ}{n m:Nat}(h:Gr a n)(b: ∀q,q.out.length<=n->Gr (k q) m):Gr (gB a k) m:=by
 obtain⟨q,c,d⟩:=h;rw [c,zC];exact b q d
theorem Gr.some {q:gJ}{n:Nat}(h:q.out.length<=n):Gr (Option.some q) n:=⟨q,rfl,h⟩
theorem uO (p:gJ)(n:Int){b:Nat}(c:p.out.length<=b)(h:b<=100000000000000):Gr (Fad p n) (b+22):=by
 obtain⟨q,a,_⟩:=aPh p.out n (by omega);unfold Fad;rw [a,zC];simp only [zK];rw [app1 q [32] (by simp;omega),zC];exact Gr.some (by simp;omega)
theorem ink_Ints (p:gJ) (l:List Int) {b:Nat} (c:p.out.length<=b) (h:b+22+22*l.length<=100000000000000):Gr (Fcm p l) (b+22+22*l.length):=by
 unfold Fcm;simp only [zK];refine(uO p _ c (by omega)).bind λ_ d=>?_;unfold Fjt;refine aAx (λ(i:Nat) (s:List Int)=>((i:Int),s)) l (λi s=>s.length<=b+22+22*i) (λ(r:gJ)=>r.out.length<=b+22+22*l.length) (by omega) ?_ ?_ _ (by simpa using d);intro e i s x f hi a;obtain⟨r,g,_⟩:=uO (gJ.mk s) x a (by omega);refine⟨r.out,by omega,?_⟩;simp only [zK];rw [yF hi,zU,yS f,zC,g,zC,fJ hi (by omega)];intro e s a;simp only [zK];rw [yH,zQ];exact⟨_,rfl,a⟩
theorem ink_Text (p:gJ)(s:Str){b:Nat}(a:p.out.length<=b)(h:b+22+s.length<=100000000000000):Gr (Fdj p s) (b+22+s.length):=by
 unfold Fdj;simp only [zK];refine(uO p _ a (by omega)).bind λq _=>?_;rw [app1 q.out (nums s) (by rw [aBd];omega),zC];exact Gr.some (by simp [aBd];omega)
theorem aUa (p:gJ)(x:fF){b:Nat}(a:p.out.length<=b)(h:b<=1000000000000):Gr (Fde p x) (b+88):=by
 unfold Fde;simp only [zK];have q:=ink_Ints p [x.At,x.N,x.Mark] a (by simp;omega);exact q.bind λ_ c=>Gr.some c
theorem aTq (p:gJ) (x:Series) {b:Nat} (j:x.Samples.length<=20000) (d:p.out.length<=b) (h:b<=100000000000):Gr (Fdd p x) (b+1760044):=by
 unfold Fdd;simp only [zK];refine(uO p _ d (by omega)).bind λq a=>?_;refine(uO q _ a (by omega)).bind λq a=>?_;unfold Fjs;refine aAx (λ(i:Nat) (s:List Int)=>((i:Int),s)) x.Samples (λi s=>s.length<=b+44+88*i) (λ(r:gJ)=>r.out.length<=b+1760044) (by omega) ?_ ?_ _ (by omega);intro e i s y f hi c;obtain⟨r,g,_⟩:=aUa (gJ.mk s) y c (by omega);refine⟨r.out,by omega,?_⟩;simp only [zK];rw [yF hi,zU,yS f,zC,g,zC,fJ hi (by omega)];intro e s c;simp only [zK];rw [yH,zQ];exact⟨_,rfl,by show s.length<=_;omega⟩
theorem aRn (K:Nat) (z:K=1760118) (p:gJ) (l:List Track) {b:Nat} (A:l.length<=30) (f: ∀t∈l,t.Name.length<=30/\t.Series.Samples.length<=20000) (g:p.out.length<=b) (h:b+22+K*l.length<=70000000):Gr (Fbf p l) (b+22+K*l.length):=by
 unfold Fbf;simp only [zK];refine(uO p _ g (by omega)).bind λ_ j=>?_;unfold Fjc;refine aAx (λ(i:Nat) (s:List Int)=>((i:Int),s)) l (λi s=>s.length<=b+22+K*i) (λ(r:gJ)=>r.out.length<=b+22+K*l.length) (by omega) ?_ ?_ _ (by simpa using j);intro k i s y c hi a;have a:s.length<=b+22+K*i:=a;have e:=Nat.mul_succ K i;have m:=Nat.mul_le_mul_left K (show i+1<=l.length from hi);rw [Nat.mul_succ]at m;obtain⟨t1,t2⟩:=f y (qS c);obtain⟨r,n,o⟩:=ink_Text (gJ.mk s) y.Name a (by omega);obtain⟨u,v,w⟩:=aTq r y.Series t2 o (by omega);obtain⟨d,x,_⟩:=uO u y.Long w (by omega);have hh:d.out.length<=b+22+K*(i+1):=by rw [Nat.mul_succ];omega
 refine⟨d.out,hh,?_⟩;simp only [zK];rw [yF hi,zU,yS c,zC,n,zC,zC,v,zC,zC,x,zC,fJ hi (by omega)];intro k s a;simp only [zK];rw [yH,zQ];exact⟨_,rfl,a⟩
theorem aVe (p:gJ)(l:List Track){b:Nat}(a:l.length<=30)(d: ∀t∈l,t.Name.length<=30/\t.Series.Samples.length<=20000)(f:p.out.length<=b)(h:b<=1000000):Gr (Fbf p l) (b+60000000):=by
 obtain⟨K,c⟩: ∃K:Nat,K=1760118:=⟨_,rfl⟩;have e:=Nat.mul_le_mul_left K a;have i:K*30=52803540:=by rw [c]
 obtain⟨q,g,_⟩:=aRn K c p l a d f (by omega);exact⟨q,g,by omega⟩
theorem aMx (p:List Int)(x:Bool)(h:p.length+5<=140737488355328): ∃q,Fcc p x=some q/\q.length<=p.length+5:=by
 unfold Fcc Fd9
 cases x with
 |true=>rw [zU,app1 p _ (by simp [nums];omega),zC,zC];exact⟨_,rfl,by simp [nums]⟩
 |false=>rw [zQ,app1 p _ (by simp [nums];omega),zC,zC];exact⟨_,rfl,by simp [nums]⟩
theorem ink_Bool (p:gJ)(x:Bool){b:Nat}(c:p.out.length<=b)(h:b<=100000000000000):Gr (Fcb p x) (b+5):=by
 obtain⟨_,a,_⟩:=aMx p.out x (by omega);unfold Fcb;rw [a,zC];exact Gr.some (by simp;omega)
theorem nm_len {s:Str}(h:aMh s=true):s.length<=30:=by
 unfold aMh at h;simp only [Bool.and_eq_true,decide_eq_true_eq]at h;exact h.1.1.1
theorem ink_Bools (p:gJ) (l:List Bool) {b:Nat} (c:p.out.length<=b) (h:b+22+5*l.length<=100000000000000):Gr (Fbo p l) (b+22+5*l.length):=by
 unfold Fbo;simp only [zK];refine(uO p _ c (by omega)).bind λ_ d=>?_;unfold Fil;refine aAx (λ(i:Nat) (s:List Int)=>((i:Int),s)) l (λi s=>s.length<=b+22+5*i) (λ(r:gJ)=>r.out.length<=b+22+5*l.length) (by omega) ?_ ?_ _ (by simpa using d);intro e i s x f hi a;obtain⟨r,g,_⟩:=ink_Bool (gJ.mk s) x a (by omega);refine⟨r.out,by omega,?_⟩;simp only [zK];rw [yF hi,zU,yS f,zC,g,zC,fJ hi (by omega)];intro e s a;simp only [zK];rw [yH,zQ];exact⟨_,rfl,a⟩
def SmT (l:List Track):Prop:=l.length<=30/\ ∀t∈l,t.Name.length<=30/\t.Series.Samples.length<=20000
theorem aXp {l:List Track}(h:SmT l)(e:Int): ∃s,Fak l e=some s:=by
 obtain⟨r,a,c⟩:=aVe (b:=0) (gJ.mk []) l h.1 h.2 (Nat.le_refl _) (by decide);obtain⟨_,d,_⟩:=uO r e c (by decide);unfold Fak Fgl Faw;rw [a,zC,d];exact⟨_,rfl⟩
theorem aOa {b:Book}{e:List gU} (o:SzB b) (f:aLw b) (p:aGk b=false) (h:wJ b e):SmT (sG b e):=by
 refine⟨by unfold sG;rw [List.length_map];exact f.sn,λ_ k=>?_⟩;unfold sG at k;obtain⟨_,q,rfl⟩:=List.mem_map.1 k;obtain⟨i,hi,rfl⟩:=List.mem_iff_getElem.1 q;have l:b.Sources[i]? =some b.Sources[i]:=gE hi;have g:=src_ok o f p l;have j:=f.src i _ l;have a:(kS b.Map (jH b b.Sources[i]) e).2=true:=by rw [aJv h];exact g.fit
 have d:=(aUc (m:=b.Map) g.sz g.ck h.ok a).n;refine⟨?_,?_⟩;show b.Sources[i].Track.length<=30;unfold aIs at j;split at j;cases j;rename_i c;exact nm_len (by simpa using c);unfold trM;split;show(List.map _ _).length<=_;rw [List.length_map];exact d;exact d
theorem aVs:SmT []:=⟨by decide,λ_ h=>by cases h⟩
theorem aSb {b:Book} (d:SzB b): ∃r:List Track×Int,Fds b=some r/\Fce b=some r/\SmT r.1:=by
 obtain⟨e,g,h,i⟩:=aGa d;unfold Fds Fce;rw [g,h,zC,zC]
 repeat (first |rw [zK]|rw [xJ]|rw [zC])
 by_cases c:e≠0
 ·rw [dT c];exact⟨([],e),rfl,rfl,aVs⟩
 obtain⟨a,f⟩:=i (by omega);rw [qD c,zQ,zQ,all_l d a f (aGo a.rs),zC,all_7 d a f (aGo a.rs),zC];exact⟨_,rfl,rfl,aOa d a f (aGo a.rs)⟩
theorem only_two' {b:Book} (d:SzB b) (ws:List gW) (f:ws.length<=9223372036854775807): ∃r:List Track×Int,Fdg b ws=some r/\Fd4 b ws=some r/\SmT r.1:=by
 obtain⟨e,i,j,k⟩:=aGa d;unfold Fdg Fd4;rw [i,aYe j ws f,zC,zC]
 repeat (first |rw [zK]|rw [xJ]|rw [zC])
 by_cases c:e≠0
 ·rw [if_pos c,dT c];exact⟨([],e),rfl,rfl,aVs⟩
 rw [if_neg c,qD c,zQ,wf_l ws f,zC]
 repeat (first |rw [zK]|rw [xJ]|rw [zC])
 by_cases c2:aAa ws≠0
 ·rw [dT c2];exact⟨([],aAa ws),rfl,rfl,aVs⟩
 obtain⟨a,g⟩:=k (by omega);have h:=aDd a.rs (aAw (aIi ws)) (λ_=>rfl) (aLo _);have l:=aDd a.rs (aBa (aIi ws)) (λ_=>rfl) (aMb _);rw [qD c2,zQ,zQ,set_l ws f,zC,only_l b.Rests _ a.rs.n,zC,all_l d a g h,zC,kept_7 b ws a.rs.n f,zC,all_7 d a g l,zC];exact⟨_,rfl,by rw [aQz a.rs],aOa d a g h⟩
theorem books_law {b:Book}(c:SzB b)(ws:List gW)(d:ws.length<=9223372036854775807)(a:Fdl=some true):Fc4 b ws=some true:=by
 obtain⟨⟨s1,_⟩,f,a2,a3⟩:=solid_two c ws d;obtain⟨_,g,h,-⟩:=aGa c;obtain⟨⟨t1,t2⟩,i,c2,c3⟩:=aSb c;obtain⟨⟨_,j⟩,d1,d2,d3⟩:=only_two' c ws d;obtain⟨_,k,_⟩:=ink_Bools (b:=0) (gJ.mk []) s1 (Nat.le_refl _) (by have:s1.length<=320000:=a3;omega);obtain⟨_,l⟩:=aXp c3 t2;obtain⟨_,m⟩:=aXp d3 j;unfold Fc4 Faw;simp only [f,a2,g,h,i,c2,d1,d2,k,zC,zK,l,m,a,decide_true,zU]
theorem aUb:Fdl=some true:=by decide+kernel
def aVu (x:Part):Prop:=i64 x.Frame/\i64 x.Word/\i64 x.Low/\i64 x.Bits
def aJk (x:Param):Prop:=okS x.Name/\i64 x.Kind/\okL (λx=>aVu x) x.Parts/\i64 x.First/\i64 x.Every/\i64 x.Times/\i64 x.Step/\okL (λx=>okS x) x.Names
def okMap (x:Map):Prop:=i64 x.Version/\okL (λx=>aJk x) x.Params
def aTp (x:Line):Prop:=i64 x.From/\i64 x.To/\i64 x.A/\i64 x.B
def aAc (x:fA):Prop:=i64 x.Den/\okL (λx=>aTp x) x.Lines/\i64 x.Low/\i64 x.High
def aHe (x:fQ):Prop:=okS x.Track/\okS x.Param/\okL (λx=>aAc x) x.Meaning/\i64 x.Long
def aIx (x:gU):Prop:=i64 x.Number/\(∀y∈x.Frame.l,(Lit.int .u16 y).wf=true)/\(∀y∈x.States.l,i64 y)/\True/\i64 x.Copies/\True
def aTu (x:Book):Prop:=okMap x.Map/\okL (λx=>aHe x) x.Sources/\okL (λx=>aIx x) x.Rests
def aLv (x:gW):Prop:=i64 x.Number/\i64 x.Word
theorem szP {p:Param}(h:aJk p):SzP p:=⟨h.1,h.2.2.1.1,h.2.2.2.2.2.2.2.1,λs a=>h.2.2.2.2.2.2.2.2 s a⟩
theorem szR {r:gU} (h:aIx r):SzR r:=by
 have c:=h.2.1;have a: ∀x∈r.Frame.l,0<=x/\x<65536:=by
  intro x d;have:=bounds_u16 (c x d);omega
 refine⟨r.Frame.l.map Int.toNat,by rw [List.length_map];exact r.Frame.h,?_,?_⟩
 ·intro i;unfold wd;rw [List.getD_eq_getElem?_getD,List.getElem?_map]
  cases hi:r.Frame.l[i]? with
  |none=>show(0:Nat)<65536;decide
  |some x=>
   have:=a x (qS hi);show x.toNat<65536;omega
 ·apply Arr.ext;unfold en;simp only [List.map_map];have: ∀l:List Int,(∀x∈l,0<=x/\x<65536)->l=l.map ((λn:Nat=>(n:Int))∘Int.toNat):=by
   intro l
   induction l with
   |nil=>intro _;rfl
   |cons x l e=>
    intro b;rw [List.map_cons,<-e λy f=>b y (List.mem_cons_of_mem _ f)];have:=b x (List.mem_cons_self ..)
    congr 1
    show x=((x.toNat:Nat):Int);omega
  exact this _ a
theorem szB {b:Book}(h:aTu b):SzB b:=
 ⟨⟨h.1.2.1,λp d=>szP (h.1.2.2 p d)⟩,h.2.1.1,λx a=>⟨(h.2.1.2 x a).1,(h.2.1.2 x a).2.2.1.1,λc e=>((h.2.1.2 x a).2.2.1.2 c e).2.1.1⟩,h.2.2.1,λr f=>szR (h.2.2.2 r f)⟩
theorem law_Books (b:Book)(ws:List gW)(a:aTu b)(c:okL (λx=>aLv x) ws):Fc4 b ws=some true:=books_law (szB a) ws c.1 aUb
end Go.Lf
