/- Laws that the claim stands on; no condition beyond those stated. -/
import Derived.Test.YtbjofgmdhbiekaaGreatDoorBKb
namespace Go.Lf
open Go.RowKit Go.OB Go.Fr1
theorem aGg {a:Type}{q:a->Bool}: ∀{l:List a}{i:Nat}{x:a},i<(l.takeWhile q).length->l[i]? =some x->q x=true
 | [],i,x,h,_=>by simp at h
 |z::l,i,x,h,b=>by
  rw [List.takeWhile_cons]at h
  by_cases c:q z=true
  ·rw [if_pos c]at h
   cases i with
   |zero=>simp at b;rw [<-b];exact c
   |succ i=>exact aGg (l:=l) (by simpa using h) (by simpa using b)
  ·rw [if_neg c]at h;simp at h
theorem aFo {b:Type}{q:b->Bool}: ∀{l:List b}{x:b},l[(l.takeWhile q).length]? =some x->q x=false
 | [],x,a=>by simp at a
 |z::l,x,a=>by
  rw [List.takeWhile_cons]at a
  by_cases c:q z=true
  ·rw [if_pos c]at a;exact aFo (l:=l) (by simpa using a)
  ·rw [if_neg c]at a;simp at a;rw [<-a];simpa using c
theorem aGp {a:Type}(q:a->Bool)(l:List a):(l.takeWhile q).length<=l.length:=(List.takeWhile_sublist _).length_le
theorem aBv {a:Type}(q:a->Bool): ∀l:List a,l.take (l.takeWhile q).length=l.takeWhile q/\l.drop (l.takeWhile q).length=l.dropWhile q
 | []=>⟨rfl,rfl⟩
 |z::l=>by
  have b:=aBv q l;rw [List.takeWhile_cons,List.dropWhile_cons]
  by_cases c:q z=true
  ·rw [if_pos c,if_pos c];exact⟨by rw [List.length_cons,List.take_succ_cons,b.1],by rw [List.length_cons,List.drop_succ_cons,b.2]⟩
  ·rw [if_neg c,if_neg c];exact⟨rfl,rfl⟩
theorem aVn {a:Type}{q:a->Bool}: ∀{l:List a}{x:a},x∈l->q x=false->x∈l.dropWhile q
 |z::l,x,h,b=>by
  rw [List.dropWhile_cons]
  by_cases c:q z=true
  ·rw [if_pos c];rcases List.mem_cons.1 h with rfl|h
   ·rw [b]at c;cases c
   ·exact aVn h b
  ·rw [if_neg c];exact h
def Srt (l:List gV):Prop:=l.Pairwise λa b=>a.Number<b.Number
theorem srt_of: ∀{l:List gV},aPc l=false->Srt l
 | [],_=>List.Pairwise.nil
 | [x],_=>List.pairwise_singleton _ _
 |x::y::l,h=>by
  have b:(decide (y.Number<=x.Number)||aPc (y::l))=false:=h;rw [Bool.or_eq_false_iff,decide_eq_false_iff_not]at b;have c:Srt (y::l):=srt_of b.2;refine List.Pairwise.cons (λz a=>?_) c;rcases List.mem_cons.1 a with rfl|a
  ·omega
  ·have:=(List.pairwise_cons.1 c).1 z a;omega
theorem aUz {q:gV->Bool}: ∀{l:List gV}{x:gV},Srt l->x∈l->q x=true->(∀a b:gV,a.Number<b.Number->q b=true->q a=true)->x∈l.takeWhile q
 |z::l,x,d,h,c,hd=>by
  obtain⟨e,f⟩:=List.pairwise_cons.1 d;rw [List.takeWhile_cons];rcases List.mem_cons.1 h with rfl|h
  ·rw [if_pos c];exact List.mem_cons_self ..
  ·rw [if_pos (hd z x (e x h) c)];exact List.mem_cons_of_mem _ (aUz f h c hd)
theorem qJ {n:Int}: ∀{l:List gV}{r:gV},Srt l->r∈l->r.Number=n->aJ l n=r
 |z::l,r,b,h,a=>by
  obtain⟨c,d⟩:=List.pairwise_cons.1 b;unfold aJ;rw [List.find?_cons];rcases List.mem_cons.1 h with rfl|h
  ·rw [dT a];rfl
  ·have:=c r h;rw [qD (by omega: ¬z.Number=n)];exact qJ d h a
theorem pF {l:List gV}{n:Int}(h: ∀r∈l,r.Number≠n):aJ l n=qC:=by
 unfold aJ;rw [List.find?_eq_none.2 (λr a=>by simpa using h r a)];rfl
def aHk (l:List gV)(b e:Int):List gV:=(l.dropWhile λr=>decide (r.Number<b)).takeWhile λr=>decide (r.Number<e)
theorem near_eq (l:List gV) (b e:Int) (m:l.length<=9223372036854775807):Fd5 l b e=some (aHk l b e):=by
 unfold Fd5;have s:=aGp (λr:gV=>decide (r.Number<b)) l;have hd:=(aBv (λr:gV=>decide (r.Number<b)) l).2;have o: ∀a,(l.takeWhile λr:gV=>decide (r.Number<b)).length=a->Ffh l b 0=some (a:Int):=by
  intro a h;unfold Ffh;refine xO (λi=>(i:Int)) a (by omega) rfl (λk i hi=>?_) (λk=>?_)
  ·have f:i<l.length:=by omega
   have d:l[i]? =some l[i]:=gE f;have g:decide (l[i].Number<b)=true:=aGg (q:=λr:gV=>decide (r.Number<b)) (by rw [h];exact hi) d;simp only [zK,yK f,zU,yY d,zC,fQ f m,g]
  ·by_cases c:a<l.length
   ·have d:l[a]? =some l[a]:=gE c;have g:decide (l[a].Number<b)=false:=aFo (q:=λr:gV=>decide (r.Number<b)) (by rw [h];exact d);simp only [zK,yK c,zU,yY d,zC,g,zQ]
   ·have:a=l.length:=by omega
    simp only [zK,this,yN,zQ,zC]
 generalize hag:(l.takeWhile λr:gV=>decide (r.Number<b)).length=a at *
 have p: ∀n,((l.drop a).takeWhile λr:gV=>decide (r.Number<e)).length=n->Few l e (a:Int)=some ((a+n:Nat):Int):=by
  intro n h;have j:=aGp (λr:gV=>decide (r.Number<e)) (l.drop a);rw [h,List.length_drop]at j;unfold Few;refine xO (λi=>((a+i:Nat):Int)) n (by omega) rfl (λk i hi=>?_) (λk=>?_)
  ·have f:a+i<l.length:=by omega
   have d:l[a+i]? =some l[a+i]:=gE f;have g:decide (l[a+i].Number<e)=true:=aGg (q:=λr:gV=>decide (r.Number<e)) (by rw [h];exact hi) (by rw [List.getElem?_drop];exact d);simp only [zK,yK f,zU,yY d,zC,fQ f m,g];rfl
  ·by_cases c:a+n<l.length
   ·have d:l[a+n]? =some l[a+n]:=gE c;have g:decide (l[a+n].Number<e)=false:=aFo (q:=λr:gV=>decide (r.Number<e)) (l:=l.drop a) (by rw [h,List.getElem?_drop];exact d);simp only [zK,yK c,zU,yY d,zC,g,zQ]
   ·have:a+n=l.length:=by omega
    simp only [zK,this,yN,zQ,zC]
 rw [o a rfl,zC,p _ rfl,zC];have j:=aGp (λr:gV=>decide (r.Number<e)) (l.drop a);rw [List.length_drop]at j;have:sub' l (a:Int) ((a+((l.drop a).takeWhile λr:gV=>decide (r.Number<e)).length:Nat):Int)=some (aHk l b e):=by
  unfold sub';rw [if_pos (by omega)];unfold aHk;rw [<-hd]
  congr 1
  rw [Int.toNat_natCast,<-(aBv (λr:gV=>decide (r.Number<e)) (l.drop a)).1]
  congr 1
  rw [(aBv (λr:gV=>decide (r.Number<e)) (l.drop a)).1];omega
 rw [this,zC]
theorem aSr {l:List gV}{b e:Int}{r:gV}(h:r∈aHk l b e):r∈l:=(List.dropWhile_sublist _).mem ((List.takeWhile_sublist _).mem h)
theorem near_at {l:List gV} (i:Srt l) {b e n:Int} (m:b<=n) (o:n<e):aJ (aHk l b e) n=aJ l n:=by
 have g:Srt (l.dropWhile λr=>decide (r.Number<b)):=List.Pairwise.sublist (List.dropWhile_sublist _) i;have h:Srt (aHk l b e):=List.Pairwise.sublist (List.takeWhile_sublist _) g;by_cases c: ∃r∈l,r.Number=n;obtain⟨r,d,f⟩:=c;rw [qJ i d f];refine qJ h ?_ f;refine aUz g (aVn d (qD (by omega))) (dT (by omega)) (λ_ _ _ k=>?_);rw [decide_eq_true_eq]at k⊢;omega;rw [pF (λr d f=>c ⟨r,aSr d,f⟩),pF (λr d f=>c ⟨r,d,f⟩)]
def jC (g:Int)(l:List gV)(A:Arr 16 gV):Arr 16 gV:=l.foldl (λA r=>if r.Number/16=g then Arr.set A (r.Number%16) r else A) A
theorem aKc {g:Int}{f:Nat}: ∀{l:List gV}{A:Arr 16 gV},(∀r∈l,¬(r.Number/16=g/\(r.Number%16).toNat=f))->(jC g l A).l[f]? =A.l[f]?
 | [],A,_=>rfl
 |y::l,A,h=>by
  have a:=h y (List.mem_cons_self ..);unfold jC;rw [List.foldl_cons];have b:=aKc (g:=g) (f:=f) (l:=l) (A:=if y.Number/16=g then Arr.set A (y.Number%16) y else A) (λr d=>h r (List.mem_cons_of_mem _ d));refine b.trans ?_
  by_cases c:y.Number/16=g
  ·rw [if_pos c];show(A.l.set (y.Number%16).toNat y)[f]? =_;rw [List.getElem?_set_ne (λe=>a ⟨c,e⟩)]
  ·rw [if_neg c]
theorem aXe {g:Int}: ∀{l:List gV}{A:Arr 16 gV}{r:gV},Srt l->r∈l->0<=r.Number->r.Number/16=g->(jC g l A).l[(r.Number%16).toNat]? =some r
 |y::l,A,r,b,h,c,a=>by
  obtain⟨d,e⟩:=List.pairwise_cons.1 b;unfold jC;rw [List.foldl_cons];rcases List.mem_cons.1 h with rfl|h
  ·rw [if_pos a];refine(aKc (g:=g) (λx f _=>?_)).trans ?_
   ·have:=d x f;omega
   ·show(A.l.set (r.Number%16).toNat r)[(r.Number%16).toNat]? =_;rw [List.getElem?_set_self];rw [A.h];omega
  ·exact aXe e h c a
theorem win_eq (g:Int) (l:List gV) (A:Arr 16 gV) (B:l.length<=9223372036854775807) (p: ∀r∈l,0<=r.Number/\r.Number<=4194303):
  Fg5 g (l,A)=some (l.dropWhile (λr=>decide (r.Number/16<=g)),jC g (l.takeWhile λr=>decide (r.Number/16<=g)) A):=by
 have u:=aGp (λr:gV=>decide (r.Number/16<=g)) l;obtain⟨s,hd⟩:=aBv (λr:gV=>decide (r.Number/16<=g)) l;unfold Fg5;refine xO (λi=>(l.drop i,jC g (l.take i) A)) (l.takeWhile λr:gV=>decide (r.Number/16<=g)).length (by omega) rfl (λk i hi=>?_) (λk=>?_)
 ·have t:i<l.length:=by omega
  have b:l[i]? =some l[i]:=gE t;have m:decide (l[i].Number/16<=g)=true:=aGg (q:=λr:gV=>decide (r.Number/16<=g)) hi b;obtain⟨f,v⟩:=p _ (List.getElem_mem t);have a:decide (0<((l.drop i).length:Int))=true:=dT (by rw [List.length_drop];omega);have n:at' (l.drop i) 0=some l[i]:=yY (i:=0) (by rw [List.getElem?_drop];exact b);have d:sub' (l.drop i) 1 ((l.drop i).length:Int)=some (l.drop (i+1)):=by
   unfold sub';rw [if_pos (by rw [List.length_drop];omega)]
   congr 1
   rw [show(1:Int).toNat=1 from rfl,List.drop_drop,List.take_of_length_le];rw [List.length_drop,List.length_drop];omega
  have w:jC g (l.take (i+1)) A=if l[i].Number/16=g then Arr.set (jC g (l.take i) A) (l[i].Number%16) l[i]else jC g (l.take i) A:=by
   rw [bF b];unfold jC;rw [foldl_snoc]
  have e: ∃z,at' (jC g (l.take i) A).l (l[i].Number%16)=some z:=by
   obtain⟨j,x⟩: ∃j:Nat,l[i].Number%16=(j:Int):=⟨(l[i].Number%16).toNat,by omega⟩;rw [x,aBw];have o:j<(jC g (l.take i) A).l.length:=by rw [(jC g (l.take i) A).h];omega
   exact⟨_,gE o⟩
  obtain⟨z,y⟩:=e;simp only [zK,a,zU,n,zC,d];rw [tX f (by omega) (by decide),zC,m,zC,zU,zC,aXc f (by decide),zC,y,zC,yX,w]
  by_cases c:l[i].Number/16=g
  ·rw [if_pos c,if_pos c,zC]
  ·rw [if_neg c,if_neg c,zC]
 ·by_cases c:(l.takeWhile λr:gV=>decide (r.Number/16<=g)).length<l.length
  ·have b:l[(l.takeWhile λr:gV=>decide (r.Number/16<=g)).length]? =some l[(l.takeWhile λr:gV=>decide (r.Number/16<=g)).length]:=gE c;have m:=aFo (q:=λr:gV=>decide (r.Number/16<=g)) b;obtain⟨f,v⟩:=p _ (List.getElem_mem c);have a:decide (0<((l.drop (l.takeWhile λr:gV=>decide (r.Number/16<=g)).length).length:Int))=true:=dT (by rw [List.length_drop];omega);have n:at' (l.drop (l.takeWhile λr:gV=>decide (r.Number/16<=g)).length) 0=some l[(l.takeWhile λr:gV=>decide (r.Number/16<=g)).length]:=yY (i:=0) (by rw [List.getElem?_drop];exact b);simp only [zK,a,zU,n,zC];rw [tX f (by omega) (by decide),zC,m,zC,zQ,s,hd]
  ·have a:decide (0<((l.drop (l.takeWhile λr:gV=>decide (r.Number/16<=g)).length).length:Int))=false:=qD (by rw [List.length_drop];omega);simp only [zK,a,zQ,zC];rw [s,hd]
theorem rest_ok {r:gV} (o:SzR r) (h:rsM r=0):vP r/\0<=r.Number/\r.Number<=4194303:=by
 obtain⟨g,_,p,f⟩:=o;unfold rsM at h;have e:r.Frame.l.map Int.toNat=g:=by rw [f];exact aVh
 rw [e]at h;have k:cO r.Number 0 4194303=false:=by
  unfold aQy at h;split at h
  ·cases h
  ·rename_i c;simpa using c
 have d:=aPu r g k;rw [h]at d;refine⟨⟨?_,?_⟩,aBm.1 k⟩
 ·intro x a;rw [f]at a;unfold en at a;obtain⟨_,q,rfl⟩:=List.mem_map.1 a;obtain⟨i,hi,rfl⟩:=List.mem_iff_getElem.1 q;have:=p i;unfold wd at this;rw [List.getD_eq_getElem?_getD,gE hi]at this;simp at this;omega
 ·intro x a;obtain⟨i,hi,rfl⟩:=List.mem_iff_getElem.1 a;rcases jV (stF r.Frame.l) r.States.l 0 with ⟨_,_,_,-,b,m⟩|⟨s,m⟩
  ·rw [m]at d;subst d;unfold stF at b;split at b
   ·cases b
   ·split at b<;>cases b
  ·exact aWr (s i _ (gE hi))
structure aAy (l:List gV):Prop where
 n:l.length<=5000
 good: ∀r∈l,vP r/\0<=r.Number/\r.Number<=4194303
 srt:Srt l
theorem rs_ok {l:List gV}(b: ∀r∈l,SzR r)(h:aXn l):aAy l:=⟨h.n,λr a=>rest_ok (b r a) (h.all r a),srt_of h.ord⟩
theorem aHn {l:List gV} (h:aAy l) (n:Int):vP (aJ l n):=by
 by_cases c: ∃r∈l,r.Number=n;obtain⟨r,a,b⟩:=c;rw [qJ h.srt a b];exact(h.good r a).1;rw [pF (λr a b=>c ⟨r,a,b⟩)];exact aTt
theorem one_take {p:Param}(a:sH p=0):(tkP 0 ((gU p 0).flatMap bM) []).1=true:=by
 unfold sH at a;split at a;cases a;split at a;cases a;split at a;rename_i c;exact absurd a c;split at a;rename_i c;exact absurd a c;split at a;rename_i c;exact absurd a c;split at a;cases a;rename_i c;simpa using c
theorem one_sz {m:Map}{p:Param}(hm:m.Params=[p])(b:SzP p):SzM m:=⟨by rw [hm,List.length_singleton];omega,λ_ a=>by rw [hm]at a;rw [mS.1 a];exact b⟩
theorem one_chk {m:Map}{p:Param}(hm:m.Params=[p])(f:m.Version=0)(g:SzP p)(c:sH p=0):Fa4 m=some (-1,0):=by
 have d:=wK c;have b:=one_sz hm g;have a: ∀q∈m.Params,sV q:=λq e=>by rw [hm]at e;rw [mS.1 e];exact d
 have h:=aG d.tm 0;unfold Fa4;simp only [lwi,zC,zK,yO,chkL1 m b,chkL2 m b a,chkL3 m b a];rw [hm,f,List.length_singleton];rw [show(!(decide ((0:Int)<=0)&&decide ((0:Int)<=2047)))=false from rfl,zQ,show decide ((200:Int)<((1:Nat):Int))=false from rfl,zQ,cZ];rw [show aOt [p] 0 p=none by unfold aOt;rw [if_pos c];rfl];show aP cntF _ [p] 0 0=_;rw [aP,cntF,Go.OB.wrap_i64 (by omega) (by omega),if_neg (by omega)];show aP tkF _ [p] 0 []=_;rw [aP,tkF,if_pos (show(tkP ((0:Nat):Int) ((gU p 0).flatMap bM) []).1=true from one_take c)];rfl
theorem aUn {m:Map}{p:Param} (hm:m.Params=[p]) (a:sV p):Fcv m=some (gU p 0):=by
 have b:=aG a.tm 0;unfold Fcv Fhu
 repeat (first |rw [zK]|rw [yO]|rw [zC])
 rw [hm,List.length_singleton];rw [xO (r:=some (gU p 0)) (λi=>match i with |0=>([],0)|_=>(gU p 0,1)) 1 (by decide)]
 ·rfl
 ·rfl
 ·intro k i _;obtain rfl:i=0:=by omega
  simp only [zK];rw [show decide ((0:Int)<((1:Nat):Int))=true from rfl,zU,show at' [p] 0=some p from rfl,zC,aPh a.pt a.tm,zC,jH (by rw [List.length_nil];omega) (by decide),zC];rfl
 ·intro k;rfl
theorem one_ok {p:Param}(b:SzP p)(a:sH p=0):Fdm (Map.mk 0 [p])=some (gU p 0,0):=by
 unfold Fdm;rw [one_chk rfl rfl b a,zC];simp only [zK];rw [show decide ((0:Int)≠0)=false from rfl,zQ,aUn rfl (wK a),zC]
def allM:List Param->Nat->List Cell
 | [],_=>[]
 |p::l,i=>gU p (i:Int)++allM l (i+1)
theorem aMo (p:Param): ∀(l:List Param) (i:Nat),allM (l++[p]) i=allM l i++gU p ((i+l.length:Nat):Int)
 | [],i=>by simp [allM]
 |q::l,i=>by rw [List.cons_append,allM,allM,aMo p l (i+1),List.append_assoc,List.length_cons,show i+1+l.length=i+(l.length+1)by omega]
theorem aJw: ∀(l:List Param) (i:Nat),(allM l i).length=(l.map λp=>(gU p 0).length).sum
 | [],_=>rfl
 |p::l,i=>by rw [allM,List.length_append,aJw l (i+1),List.map_cons,List.sum_cons,(aAq p (i:Int)).2]
theorem aGo {p:Param}{a:Int}{c:Cell}(h:c∈gU p a):c.Param=a:=by
 obtain⟨_,_,_,-,-,rfl⟩:=aDx h;rfl
theorem aRl {l:List Param}{j:Nat}{p:Param}(h:l[j]? =some p):(allM l 0).filter (λc=>decide (c.Param=(j:Int)))=gU p (j:Int):=by
 have a: ∀(q:Param) (i:Nat),i≠j->(gU q (i:Int)).filter (λc=>decide (c.Param=(j:Int)))=[]:=by
  intro q i hi;rw [List.filter_eq_nil_iff];intro c b;rw [aGo b,decide_eq_true_eq];omega
 have none: ∀(l:List Param) (i:Nat),j<i->(allM l i).filter (λc=>decide (c.Param=(j:Int)))=[]:=by
  intro l
  induction l with
  |nil=>intro i _;rfl
  |cons q l d=>intro i hi;rw [allM,List.filter_append,a q i (by omega),d (i+1) (by omega)];rfl
 have e: ∀(l:List Param) (i k:Nat),i+k=j->l[k]? =some p->(allM l i).filter (λc=>decide (c.Param=(j:Int)))=gU p (j:Int):=by
  intro l
  induction l with
  |nil=>intro i k _ h;simp at h
  |cons q l d=>
   intro i k _ h;rw [allM,List.filter_append]
   cases k with
   |zero=>
    simp at h;subst h;obtain rfl:i=j:=by omega
    rw [none l (i+1) (by omega),List.append_nil,List.filter_eq_self];intro c b;rw [aGo b];exact dT rfl
   |succ k=>
    rw [a q i (by omega),d (i+1) k (by omega) (by simpa using h)];rfl
 exact e l 0 j (by omega) h
theorem aVq {m:Map} (e:SzM m) (hm:Fa1 m=some (0,0)) (f:MapOk m) {j:Nat}{p:Param} (h:m.Params[j]? =some p):Fbf m (j:Int)=some (gU p (j:Int)):=by
 have s:(allM m.Params 0).length<=4000:=by rw [aJw];exact f.cnt
 have a:Fep m=some (allM m.Params 0):=by
  unfold Fep Fh0
  repeat (first |rw [zK]|rw [yO]|rw [zC])
  rw [xO (r:=some (allM m.Params 0)) (λi=>(allM (m.Params.take i) 0,(i:Int))) m.Params.length e.pl]
  ·rfl
  ·rfl
  ·intro k i hi;have b:m.Params[i]? =some m.Params[i]:=gE hi;have t:=f.all _ (List.getElem_mem hi);have o:(allM (m.Params.take (i+1)) 0).length<=182400:=by
    rw [aJw];have: ∀l:List Param,(∀q∈l,sV q)->(l.map λp=>(gU p 0).length).sum<=l.length*912:=by
     intro l
     induction l with
     |nil=>intro _;simp
     |cons q l u=>
      intro g;rw [List.map_cons,List.sum_cons,List.length_cons];have:=u λz e=>g z (List.mem_cons_of_mem _ e)
      have:=aG (g q (List.mem_cons_self ..)).tm 0;omega
    have v:=this (m.Params.take (i+1)) λq g=>f.all q (List.mem_of_mem_take g)
    rw [List.length_take]at v;have:=f.n;have:min (i+1) m.Params.length<=200:=by omega
    generalize min (i+1) m.Params.length=z at *
    omega
   have d:allM (m.Params.take (i+1)) 0=allM (m.Params.take i) 0++gU m.Params[i] (i:Int):=by
    rw [bF b,aMo,List.length_take,show 0+min i m.Params.length=i by omega]
   rw [d,List.length_append]at o;simp only [zK,yK hi,zU,yY b,zC,aIi t.pt t.tm];rw [jH (by omega) (by decide),zC,fQ hi e.pl,d]
  ·intro k;simp only [zK,yN,zQ,List.take_length]
 unfold Fbf Ffy;rw [hm,zC];simp only [zK];rw [show decide ((0:Int)≠0)=false from rfl,zQ,a,zC,zC];unfold Fjj;rw [xO (r:=some (gU p (j:Int))) (λi=>(((allM m.Params 0).take i).filter (λc=>decide (c.Param=(j:Int))),(i:Int))) (allM m.Params 0).length (by omega)]
 ·rfl
 ·rfl
 ·intro k i hi;have b:(allM m.Params 0)[i]? =some (allM m.Params 0)[i]:=gE hi;have w:(((allM m.Params 0).take i).filter (λc=>decide (c.Param=(j:Int)))).length<=4000:=Nat.le_trans (List.length_filter_le _ _) (by rw [List.length_take];omega);simp only [zK,yK hi,zU,yY b,zC,fQ hi (by omega)];rw [jH (by rw [List.length_singleton];omega) (by decide),zC,bF b,List.filter_append]
  by_cases c:(allM m.Params 0)[i].Param=(j:Int)
  ·rw [dT c,zU,zC,show [(allM m.Params 0)[i]].filter (λc=>decide (c.Param=(j:Int)))=[(allM m.Params 0)[i]]by simp [c]]
  ·rw [qD c,zQ,zC,show [(allM m.Params 0)[i]].filter (λc=>decide (c.Param=(j:Int)))=[]by simp [c],List.append_nil]
 ·intro k;simp only [zK,yN,zQ,List.take_length,aRl h]
def aJv (m:Map)(p:Param)(a:List gV)(base:Int)(c:Cell):eU:=eU.mk (sU p base c) (smpM m p (aJ a) base c.Places).1 (smpM m p (aJ a) base c.Places).2
def secL (m:Map)(p:Param)(a:List gV)(cs:List Cell)(g:Int):List eU:=cs.map (aJv m p a (g*16))
def pI (m:Map)(p:Param)(a:List gV)(cs:List Cell)(b:Int)(k:Nat):List eU:=(List.range k).flatMap λ(j:Nat)=>secL m p a cs (b+(j:Int))
theorem aOi (m:Map)(p:Param)(a:List gV)(cs:List Cell)(b:Int)(k:Nat):pI m p a cs b (k+1)=pI m p a cs b k++secL m p a cs (b+(k:Int)):=by
 unfold pI;rw [List.range_succ,List.flatMap_append,List.flatMap_singleton]
theorem aAc (m:Map)(p:Param)(a:List gV)(cs:List Cell)(b:Int): ∀k,(pI m p a cs b k).length=k*cs.length
 |0=>by simp [pI]
 |k+1=>by rw [aOi,List.length_append,aAc m p a cs b k,Nat.add_mul,Nat.one_mul];unfold secL;rw [List.length_map]
theorem cells_pi (p:Param) (a:Int):gU p a=(gU p 0).map λc=>Cell.mk a c.Index c.Frame c.Places:=by
 apply List.ext_getElem?;intro i;rw [List.getElem?_map];have j:(gU p a).length=(gU p 0).length:=(aAq p a).2;by_cases hi:i<(gU p 0).length;have b:(gU p 0)[i]? =some (gU p 0)[i]:=gE hi;have d:(gU p a)[i]? =some ((gU p a)[i]'(by omega)):=gE (by omega);obtain⟨s,f,a2,-⟩:=aIw (bU p) b;obtain⟨g,e,h,-⟩:=aIw (bU p) d;rw [f]at e;obtain rfl:s=g:=by simpa using e
 rw [b,d,a2,h];rfl;rw [List.getElem?_eq_none (by omega),List.getElem?_eq_none (by omega)];rfl
theorem sec_pi (m:Map)(p:Param)(a:List gV)(b g:Int):secL m p a (gU p b) g=secL m p a (gU p 0) g:=by
 rw [cells_pi p b];unfold secL;rw [List.map_map];rfl
theorem aGy {p:Param}(a:sV p){b:Int}{c:Cell}(d:c∈gU p b):c.Places.length<=8/\(∀x∈c.Places,aMh x)/\rZ c.Places=(mY p.Parts).toNat:=by
 obtain⟨s,t,_,e,f,rfl⟩:=aDx d;have:=aQv a s (t:Int);exact⟨this.2,λx g=>place_ok a e f g,this.1⟩
def aKv (a:List gV)(b:Int):Nat->List gV
 |0=>a
 |j+1=>(aKv a b j).dropWhile λr=>decide (r.Number/16<=b+(j:Int))
theorem aEu (a:List gV)(b:Int): ∀j,(aKv a b j).Sublist a
 |0=>List.Sublist.refl _
 |j+1=>(List.dropWhile_sublist _).trans (aEu a b j)
theorem aSs {a:List gV}{b:Int}{r:gV}(c:r∈a): ∀j:Nat,b+(j:Int)<=r.Number/16->r∈aKv a b j
 |0,_=>c
 |j+1,h=>aVn (aSs c j (by omega)) (qD (by omega))
theorem win_at {e:List gV} (h:aAy e) {d:Int} (j:Nat) (t:0<=d+(j:Int)) {f:Int} (f0:0<=f) (f1:f<=15):
  at' (jC (d+(j:Int)) ((aKv e d j).takeWhile λr=>decide (r.Number/16<=d+(j:Int))) (Arr.rep 16 qC)).l f=some (aJ e ((d+(j:Int))*16+f)):=by
 have m:Srt (aKv e d j):=List.Pairwise.sublist (aEu e d j) h.srt;have o:Srt ((aKv e d j).takeWhile λr=>decide (r.Number/16<=d+(j:Int))):=List.Pairwise.sublist (List.takeWhile_sublist _) m;obtain⟨i,rfl⟩: ∃i:Nat,f=(i:Int):=⟨f.toNat,by omega⟩;rw [aBw]
 by_cases c: ∃r∈e,r.Number=(d+(j:Int))*16+(i:Int)
 ·obtain⟨r,k,p⟩:=c;rw [qJ h.srt k p];have hm:r∈(aKv e d j).takeWhile λr=>decide (r.Number/16<=d+(j:Int)):=by
   refine aUz m (aSs k j (by omega)) (dT (by omega)) (λ_ _ _ q=>?_);rw [decide_eq_true_eq]at q⊢;omega
  have:=aXe (g:=d+(j:Int)) (A:=Arr.rep 16 qC) o hm (by omega) (by omega);rw [show(r.Number%16).toNat=i by omega]at this;exact this
 ·rw [pF (λr k p=>c ⟨r,k,p⟩)];rw [aKc (λr k q=>?_)]
  ·show(List.replicate 16 qC)[i]? =some qC;rw [List.getElem?_replicate,if_pos (by omega)]
  ·have n:r∈e:=(aEu e d j).mem ((List.takeWhile_sublist _).mem k);exact c ⟨r,n,by have:=(h.good r n).2;omega⟩
theorem samples_l {m:Map}{p:Param}{b:List gV} (w:SzP p) (t:sH p=0) (h:aAy b) {a e:Int} (k:Nat) (E:0<=a) (F:a+(k:Int)=e+1) (G:e<=262143) (u:k*(gU p 0).length<=20000):
  Fdr m p (gU p 0) b a e=some (pI m p b (gU p 0) a k):=by
 have f:=wK t;have y:(gU p 0).length<=912:=aG f.tm 0;unfold Fdr Fjk;rw [xO (r:=some (pI m p b (gU p 0) a k)) (λj=>(aKv b a j,pI m p b (gU p 0) a j,a+(j:Int))) k (by omega)]
 ·rfl
 ·show(b,[],a)=(b,pI m p b (gU p 0) a 0,a+((0:Nat):Int));rw [Int.natCast_zero,Int.add_zero];rfl
 ·intro g j _;have c:=aEu b a j;have z:=c.length_le;have I:=h.n;have o:=aAc m p b (gU p 0) a j;have v:j*(gU p 0).length+(gU p 0).length<=20000:=by
   have:(j+1)*(gU p 0).length<=k*(gU p 0).length:=Nat.mul_le_mul_right _ (by omega);rw [Nat.add_mul,Nat.one_mul]at this;omega
  simp only [zK];rw [dT (by omega:a+(j:Int)<=e),zU,win_eq _ _ _ (by omega) (λr A=>(h.good r (c.mem A)).2),zC];simp only;rw [Go.OB.wrap_i64 (n:=(a+(j:Int))*16) (by omega) (by omega),times_l' f (by omega) (by omega) 0,zC];have B:Ffv m p (gU p 0) ((aKv b a j).dropWhile λr=>decide (r.Number/16<=a+(j:Int))) (jC (a+(j:Int)) ((aKv b a j).takeWhile λr=>decide (r.Number/16<=a+(j:Int))) (Arr.rep 16 qC)) ((gU p 0).map (sU p ((a+(j:Int))*16))) ((gU p 0).length:Int) (pI m p b (gU p 0) a j,0)=some (aKv b a (j+1),pI m p b (gU p 0) a (j+1)):=by
   unfold Ffv;refine xO (λi=>(pI m p b (gU p 0) a j++((gU p 0).take i).map (aJv m p b ((a+(j:Int))*16)),(i:Int))) (gU p 0).length (by omega) ?_ (λg i hi=>?_) (λg=>?_)
   ·show _=(pI m p b (gU p 0) a j++[],_);rw [List.append_nil];rfl
   ·have q:(gU p 0)[i]? =some (gU p 0)[i]:=gE hi;obtain⟨C,c2,c3⟩:=aGy f (List.getElem_mem hi);have D:at' ((gU p 0).map (sU p ((a+(j:Int))*16))) (i:Int)=some (sU p ((a+(j:Int))*16) (gU p 0)[i]):=yY (by rw [List.getElem?_map,q];rfl);simp only [zK,yK hi,zU,yY q,zC];rw [read_eq m p (gU p 0)[i] _ (aJ b) ((a+(j:Int))*16) w t C (λx s=>⟨c2 x s,aHn h _,win_at h j (by omega) (c2 x s).f0 (c2 x s).f1⟩) c3,zC];rw [D,zC,jH (by rw [List.length_append,o,List.length_map,List.length_take,List.length_singleton];omega) (by decide),zC,fQ hi (by omega),bF q,List.map_append,List.map_singleton,<-List.append_assoc];rfl
   ·simp only [zK,yN,zQ,List.take_length];rw [aOi];rfl
  have d:(Arr.rep 16 (gV.mk 0 (Arr.rep 64 0:Arr 64 Int) (Arr.rep 64 0:Arr 64 Int) false 0 false):Arr 16 gV)=Arr.rep 16 qC:=rfl;rw [d,B,zC];rw [Go.OB.wrap_i64 (n:=a+(j:Int)+1) (by omega) (by omega),show a+(j:Int)+1=a+((j+1:Nat):Int)by omega]
 ·intro g;simp only [zK];rw [qD (by omega),zQ]
theorem samples_5 {m:Map}{p:Param}{c:List gV} (z:SzP p) (u:sH p=0) (h:aAy c) {b:Int} (v:at' m.Params b=some p) {a d:Int} (k:Nat) (G:0<=a) (H:a+(k:Int)=d+1) (I:d<=262143) (w:k*(gU p 0).length<=20000):
  Fgz m b c (gU p b) (d*16) (a*16,[])=some (pI m p c (gU p 0) a k):=by
 have e:=wK u;have A:(gU p 0).length<=912:=aG e.tm 0;have B:(gU p b).length=(gU p 0).length:=(aAq p b).2;unfold Fgz;refine xO (λj=>((a+(j:Int))*16,pI m p c (gU p 0) a j)) k (by omega) ?_ (λf j _=>?_) (λf=>?_)
 ·show _=((a+((0:Nat):Int))*16,_);rw [Int.natCast_zero,Int.add_zero];rfl
 ·have K:=h.n;have g:=aAc m p c (gU p 0) a j;have y:j*(gU p 0).length+(gU p 0).length<=20000:=by
   have:(j+1)*(gU p 0).length<=k*(gU p 0).length:=Nat.mul_le_mul_right _ (by omega);rw [Nat.add_mul,Nat.one_mul]at this;omega
  simp only [zK];rw [dT (by omega:(a+(j:Int))*16<=d*16),zU,v,zC,times_5 e (by omega) (by omega) b,zC,Go.OB.wrap_i64 (n:=(a+(j:Int))*16+16) (by omega) (by omega),near_eq _ _ _ (by omega),zC];have o:(aHk c ((a+(j:Int))*16) ((a+(j:Int))*16+16)).length<=9223372036854775807:=by
   have:=((List.takeWhile_sublist (λr:gV=>decide (r.Number<(a+(j:Int))*16+16)) (l:=c.dropWhile λr=>decide (r.Number<(a+(j:Int))*16))).trans (List.dropWhile_sublist _)).length_le;show((c.dropWhile λr=>decide (r.Number<(a+(j:Int))*16)).takeWhile λr=>decide (r.Number<(a+(j:Int))*16+16)).length<=_;omega
  have C:Fhb m (gU p b) ((a+(j:Int))*16) ((gU p b).map (sU p ((a+(j:Int))*16))) (aHk c ((a+(j:Int))*16) ((a+(j:Int))*16+16)) (0,pI m p c (gU p 0) a j)=some (pI m p c (gU p 0) a (j+1)):=by
   unfold Fhb;refine xO (λi=>((i:Int),pI m p c (gU p 0) a j++((gU p b).take i).map (aJv m p c ((a+(j:Int))*16)))) (gU p b).length (by omega) ?_ (λf i hi=>?_) (λf=>?_)
   ·show _=(_,pI m p c (gU p 0) a j++[]);rw [List.append_nil];rfl
   ·have q:(gU p b)[i]? =some (gU p b)[i]:=gE hi;obtain⟨D,c2,c3⟩:=aGy e (List.getElem_mem hi);have s:at' m.Params (gU p b)[i].Param=some p:=by rw [aGo (List.getElem_mem hi)];exact v
    have E:at' ((gU p b).map (sU p ((a+(j:Int))*16))) (i:Int)=some (sU p ((a+(j:Int))*16) (gU p b)[i]):=yY (by rw [List.getElem?_map,q];rfl);simp only [zK,yK hi,zU,yY q,zC];rw [sample_eq m p (gU p b)[i] _ (aJ c) ((a+(j:Int))*16) z u D (by omega) (by omega) o (λr F=>(h.good r (aSr F)).1)
     (λx t=>⟨c2 x t,aHn h _,near_at h.srt (by have:=(c2 x t).f0;omega) (by have:=(c2 x t).f1;omega)⟩) c3 s,zC]
    rw [E,zC,jH (by rw [List.length_append,g,List.length_map,List.length_take,List.length_singleton];omega) (by decide),zC,fQ hi (by omega),bF q,List.map_append,List.map_singleton,<-List.append_assoc];rfl
   ·simp only [zK,yN,zQ,List.take_length];rw [aOi,<-sec_pi m p c b];rfl
  rw [C,zC]
  congr 2
  omega
 ·simp only [zK];rw [qD (by omega),zQ]
def mF (a:List gV):Int:=match a.getLast? with
 |some r=>r.Number/16
 |none=>0
def mZ (a:List gV):Int:=match a.head? with
 |some r=>r.Number/16
 |none=>0
def tN (a:List gV):Nat:=(mF a-mZ a+1).toNat
def aPy (m:Map)(p:Param)(a:List gV):jW×Bool:=if a=[]then(jW.mk 1 [],true)else if 20000<(tN a:Int)*(gU p 0).length+1 then(jW.mk 0 [],false)else(jW.mk 1 (pI m p a (gU p 0) (mZ a) (tN a)++[eU.mk ((mF a+1)*1024) 0 0]),true)
theorem ends {c:List gV} (h:aAy c) (d:c≠[]): ∃a b,at' c 0=some a/\at' c (IntKind.i64.wrap ((c.length:Int)-1))=some b/\mZ c=a.Number/16/\mF c=b.Number/16/\0<=a.Number/\b.Number<=4194303/\a.Number<=b.Number:=by
 have f:=h.n
 cases c with
 |nil=>exact absurd rfl d
 |cons a l=>
  have e:(a::l)[l.length]? =some ((a::l)[l.length]'(by simp)):=gE (by simp);refine⟨a,(a::l)[l.length]'(by simp),rfl,?_,rfl,?_,(h.good a (List.mem_cons_self ..)).2.1,(h.good _ (List.getElem_mem (by simp))).2.2,?_⟩
  ·rw [List.length_cons]at f⊢;rw [wrap_i64 (by omega) (by omega),show((l.length+1:Nat):Int)-1=(l.length:Int)by omega];exact yY e
  ·unfold mF;rw [List.getLast?_eq_getElem?,List.length_cons,show l.length+1-1=l.length by omega,e]
  ·cases l with
   |nil=>exact Int.le_refl _
   |cons b l=>
    have g:=(List.pairwise_cons.1 h.srt).1 ((a::b::l)[(b::l).length]'(by simp)) (by
     show(b::l)[l.length]'(by simp)∈b::l;exact List.getElem_mem _)
    omega
theorem made_5 {m:Map}{p:Param}{d:List gV}(v:SzP p)(s:sH p=0)(h:aAy d){g:Int}(w:at' m.Params g=some p)(f:Fbf m g=some (gU p g)):Fdl m g d=some (aPy m p d):=by
 have x:=wK s;have y:(gU p 0).length<=912:=aG x.tm 0;have j:(gU p g).length=(gU p 0).length:=(aAq p g).2;unfold Fdl aPy
 repeat (first |rw [zK]|rw [yO]|rw [zC])
 rw [yX]
 by_cases i:d=[]
 ·subst i;rfl
 have t:d.length≠0:=λe=>i (List.eq_nil_of_length_eq_zero e)
 rw [if_neg (by omega),if_neg i,f,zC];obtain⟨_,_,z,A,k,o,a0,_,_⟩:=ends h i;have C:(tN d:Int)=mF d-mZ d+1:=by unfold tN;rw [k,o];omega
 rw [z,zC,tX a0 (by omega) (by decide),zC,zK,zK,zK,A,zC,tX (by omega) (by omega) (by decide),zC,<-k,<-o];simp only [zK];have u:0<=mZ d/\mZ d<=mF d/\mF d<=262143:=by rw [k,o];omega
 have q:0<=(tN d:Int)*((gU p 0).length:Int)/\(tN d:Int)*((gU p 0).length:Int)<=262144*912:=by
  refine⟨Int.mul_nonneg (by omega) (by omega),?_⟩;exact Int.mul_le_mul (by omega) (by omega) (by omega) (by omega)
 rw [wrap_i64 (n:=mZ d*16) (by omega) (by omega),wrap_i64 (n:=mF d*16) (by omega) (by omega),wrap_i64 (n:=mF d*16-mZ d*16) (by omega) (by omega),tX (by omega) (by omega) (by decide),zC,
  show(mF d*16-mZ d*16)/16=mF d-mZ d by omega,wrap_i64 (n:=mF d-mZ d+1) (by omega) (by omega),<-C,j,wrap_i64 (n:=(tN d:Int)*((gU p 0).length:Int)) (by omega) (by omega),wrap_i64 (n:=(tN d:Int)*((gU p 0).length:Int)+1) (by omega) (by omega),yX]
 by_cases c:20000<(tN d:Int)*((gU p 0).length:Int)+1
 ·rw [if_pos c,if_pos c]
 rw [if_neg c,if_neg c];have D:tN d*(gU p 0).length<=20000:=by
  have:((tN d*(gU p 0).length:Nat):Int)=(tN d:Int)*((gU p 0).length:Int):=Int.natCast_mul _ _;omega
 rw [samples_5 v s h w (tN d) u.1 (by omega) u.2.2 D,zC,wrap_i64 (n:=mF d*16+16) (by omega) (by omega),wrap_i64 (n:=64*(mF d*16+16)) (by omega) (by omega),jH (by rw [aAc,List.length_singleton];omega) (by decide),zC,
  show(64:Int)*(mF d*16+16)=(mF d+1)*1024 by omega]
theorem from_l {m:Map}{s:Str}{p:Param}{d:List gV}(hm:Fav m=some (0,0))(g:m.Params.length<=9223372036854775807)(hi:0<=qI m s)(j:m.Params[(qI m s).toNat]? =some p)(w:SzP p)(k:sH p=0)(h:aAy d)(z:Fax d=some 0):
  Fem m s d=some ((aPy m p d).1,if (aPy m p d).2=true then 0 else 3):=by
 have A:=wK k;have B:(gU p 0).length<=912:=aG A.tm 0;have o:at' m.Params (qI m s)=some p:=by
  obtain⟨i,q⟩: ∃i:Nat,qI m s=(i:Int):=⟨(qI m s).toNat,by omega⟩;rw [q]at j⊢;rw [Int.toNat_natCast]at j;exact yY j
 unfold Fem aPy;rw [hm,zC];simp only [zK];rw [show decide ((0:Int)≠0)=false from rfl,zQ,par_idxR m g s,zC,qD (by omega),zQ,z,zC,show decide ((0:Int)≠0)=false from rfl,zQ,yX]
 by_cases f:d=[]
 ·subst f;rfl
 have x:d.length≠0:=λe=>f (List.eq_nil_of_length_eq_zero e)
 rw [if_neg (by omega),if_neg f,o,zC,one_ok w k,zC];obtain⟨_,_,C,D,t,u,a0,_,_⟩:=ends h f;have F:(tN d:Int)=mF d-mZ d+1:=by unfold tN;rw [t,u];omega
 rw [C,zC,tX a0 (by omega) (by decide),zC,D,zC,tX (by omega) (by omega) (by decide),zC,<-t,<-u];have y:0<=mZ d/\mZ d<=mF d/\mF d<=262143:=by rw [t,u];omega
 have v:0<=(tN d:Int)*((gU p 0).length:Int)/\(tN d:Int)*((gU p 0).length:Int)<=262144*912:=by
  refine⟨Int.mul_nonneg (by omega) (by omega),?_⟩;exact Int.mul_le_mul (by omega) (by omega) (by omega) (by omega)
 rw [wrap_i64 (n:=mF d-mZ d) (by omega) (by omega),wrap_i64 (n:=mF d-mZ d+1) (by omega) (by omega),<-F,wrap_i64 (n:=(tN d:Int)*((gU p 0).length:Int)) (by omega) (by omega),wrap_i64 (n:=(tN d:Int)*((gU p 0).length:Int)+1) (by omega) (by omega),yX]
 by_cases c:20000<(tN d:Int)*((gU p 0).length:Int)+1
 ·rw [if_pos c,if_pos c];rfl
 rw [if_neg c,if_neg c];have G:tN d*(gU p 0).length<=20000:=by
  have:((tN d*(gU p 0).length:Nat):Int)=(tN d:Int)*((gU p 0).length:Int):=Int.natCast_mul _ _;omega
 rw [samples_l w k h (tN d) y.1 (by omega) y.2.2 G,zC,wrap_i64 (n:=mF d+1) (by omega) (by omega),wrap_i64 (n:=(mF d+1)*1024) (by omega) (by omega),jH (by rw [aAc,List.length_singleton];omega) (by decide),zC];rfl
structure BookOk (b:Book):Prop where
 mp:MapOk b.Map
 ml:Fav b.Map=some (0,0)
 m2:Fa1 b.Map=some (0,0)
 rs:aAy b.Rests
 rl:Fax b.Rests=some 0
 sn:b.Sources.length<=30
 src: ∀(i:Nat) (x:eH),b.Sources[i]? =some x->aMc b i x=0
def aLt (b:Book)(x:eH):Param:=(b.Map.Params[(qI b.Map x.Param).toNat]?).getD (Param.mk [] 0 [] 0 0 0 0 [])
theorem src_par {b:Book}{i:Nat}{x:eH}(h:aMc b i x=0):0<=qI b.Map x.Param:=by
 unfold aMc at h;split at h;cases h;split at h;cases h;split at h;cases h;omega
theorem aOj {b:Book}{x:eH} (h:0<=qI b.Map x.Param):b.Map.Params[(qI b.Map x.Param).toNat]? =some (aLt b x)/\at' b.Map.Params (qI b.Map x.Param)=some (aLt b x):=by
 rcases aKs (λy:Param=>decide (y.Name=x.Param)) b.Map.Params 0 with ⟨a,-⟩|⟨j,y,a,c,-,-⟩
 ·have:qI b.Map x.Param= -1:=a;omega
 ·have e:qI b.Map x.Param=(j:Int):=by rw [Nat.zero_add]at a;exact a
  have d:aLt b x=y:=by unfold aLt;rw [e,Int.toNat_natCast,c];rfl
  rw [e,Int.toNat_natCast,d];exact⟨c,yY c⟩
def aDf (l:List gV)(fin:Option Int):Option Int:=if 5000<l.length then some 3 else cZ rsF (if aPc l=true then some 10 else fin) l 0
theorem aEd (l:List gV):(∃v:Int,v≠0/\ ∀fin,aDf l fin=some v)\/((∀fin,aDf l fin=fin)/\aXn l):=by
 unfold aDf
 by_cases a:5000<l.length
 ·exact .inl ⟨3,by decide,λfin=>by rw [if_pos a]⟩
 rcases jV rsF l 0 with ⟨j,x,v,e,b,d⟩|⟨e,d⟩
 ·unfold rsF at b;split at b
  ·cases b
  ·rename_i c;cases b;exact .inl ⟨rsM x,c,λfin=>by rw [if_neg a,d]⟩
 ·cases ho:aPc l with
  |true=>exact .inl ⟨10,by decide,λfin=>by rw [if_neg a,d];rfl⟩
  |false=>
   refine .inr ⟨λfin=>by rw [if_neg a,d];rfl,by omega,?_,ho⟩;intro r f;obtain⟨j,g,rfl⟩:=List.mem_iff_getElem.1 f;have:=e j _ (gE g);unfold rsF at this;split at this
   ·assumption
   ·cases this
theorem fault_K (l:List gV)(fin:Option Int):(gB (aFw l) λx=>gJ (decide (x≠0)) (some x) fin)=aDf l fin:=by
 have e:aFw l=aDf l (some 0):=rfl;rw [e];rcases aEd l with ⟨_,a,b⟩|⟨a,-⟩
 ·rw [b,b,zC,dT a];rfl
 ·rw [a,a,zC];rfl
def aVg (b:Book):Nat->eH->Option (Option Int):=λi x=>if aMc b i x=0 then none else some (some (aMc b i x))
theorem bookL1 {b:Book}(a:SzB b)(fin:Option Int):Fff b (λ_=>fin) (b.Sources.length:Int) 0=cZ (aVg b) fin b.Sources 0:=by
 unfold Fff;refine xY b.Sources _ _ a.sl (λk i x d c=>?_) (λk=>by simp only [zK,yN,zQ]);simp only [zK,yK c,zU,src_l a d,zC,fQ c a.sl];rw [yX];unfold aVg;by_cases e:aMc b i x=0;rw [if_neg (by simpa using e),if_pos e];rw [if_pos e,if_neg e]
theorem bookR1 {b:Book} (g:SzB b) (fin:Option Int):Fgd b (λ_=>fin) 0=cZ (aVg b) fin b.Sources 0:=by
 unfold Fgd;refine xY b.Sources _ _ g.sl (λk i x q s=>?_) (λk=>by simp only [zK,yN,zQ]);have t:=g.ss x (qS q);have u:=g.sl;simp only [zK,yO,yK s,zU,yY q,zC,fQ s g.sl,aUb x.Track t.tr];unfold aVg aMc
 cases aQi x.Track with
 |false=>rfl
 |true=>
  simp only [Bool.not_true,zQ,Bool.true_eq_false,if_false];unfold Fig;have h:(b.Sources.take i).length=i:=by rw [List.length_take];omega
  rw [aZ (b.Sources.take i) (λy=>decide (y.Track=x.Track)) (some 5) (gB (Fa7 b.Map x.Param) λn=>gJ (decide (n<0)) (some 4) (gJ (decide (1<(x.Meaning.length:Int))) (some 2)
    (gJ (decide ((x.Meaning.length:Int)=1)) (gB (at' x.Meaning 0) λo=>gB (Fb6 o) λm=>gJ (decide (m≠0)) (some m) (gB (Fao x.Long 0 1099511627776) λa=>gJ a (some 9) (k ((i+1:Nat):Int)))) (gB (Fao x.Long 0 1099511627776) λa=>gJ a (some 9) (k ((i+1:Nat):Int)))))) (by omega)
   (λv j y g1 g2=>by
    rw [h]at g2;have p:b.Sources[j]? =some y:=by rw [List.getElem?_take]at g1;rw [if_pos g2]at g1;exact g1
    simp only [zK,yK g2,zU,yY p,zC,fQ g2 (by omega)])
   (λv=>by simp only [zK,h,yN,zQ])]
  cases((b.Sources.take i).any λy=>decide (y.Track=x.Track))with
  |true=>rfl
  |false=>
   simp only [zQ,Bool.false_eq_true,if_false];rw [par_5 b.Map g.mp.pl,zC,yX]
   by_cases c4:qI b.Map x.Param<0
   ·rw [if_pos c4,if_pos c4];rfl
   rw [if_neg c4,if_neg c4,yX]
   by_cases c2:1<x.Meaning.length
   ·rw [if_pos c2,if_pos (by omega)];rfl
   rw [if_neg c2,if_neg (by omega),out7];simp only [zC];have f: ∀z,gJ (decide (x.Long<0)||decide (1099511627776<x.Long)) (some (9:Int)) z=if cO x.Long 0 1099511627776=true then some 9 else z:=by
    intro z;show gJ (cO x.Long 0 1099511627776) _ _=_
    cases cO x.Long 0 1099511627776<;>rfl
   rw [f];unfold aMz;rcases hm:x.Meaning with _|⟨c,_|⟨_,l⟩⟩
   ·cases cO x.Long 0 1099511627776<;>rfl
   ·rw [show decide ((([c]:List eG).length:Int)=1)=true from rfl,zU,show at' [c] 0=some c from rfl,zC,cal_5 c (t.ms c (by rw [hm];exact List.mem_cons_self ..)),aWk,zC,yX]
    by_cases e:aMb c=0
    ·simp only [e,ne_eq,not_true,if_false]
     cases cO x.Long 0 1099511627776<;>rfl
    ·simp only [e,ne_eq,not_false_eq_true,if_true,if_false]
   ·rw [hm]at c2;simp at c2
def aYc (b:Book):Bool:=b.Sources.any λx=> !(aPy b.Map (aLt b x) b.Rests).2
theorem book_two {b:Book} (a:SzB b): ∃e,Fdj b=some e/\Fdb b=some e/\(e=0->BookOk b/\aYc b=false):=by
 obtain⟨v,m1,m2,m3⟩:=map_two a.mp;unfold Fdj Fdb;rw [m1,m2,zC,zC];obtain⟨_,v2⟩:=v;simp only [zK,yO]
 by_cases c0: ¬v2=0
 ·rw [dT c0];exact⟨v2,rfl,rfl,λh=>absurd h c0⟩
 have c0:v2=0:=by omega
 subst c0;obtain⟨rfl,s⟩:=m3 rfl;rw [show decide ((0:Int)≠0)=false from rfl,zQ,zQ]
 by_cases D:30<b.Sources.length
 ·rw [dT (show(30:Int)<(b.Sources.length:Int)by omega),zU,zU];exact⟨3,rfl,rfl,λh=>by cases h⟩
 rw [qD (show¬(30:Int)<(b.Sources.length:Int)by omega),zQ,zQ,bookL1 a,bookR1 a];rcases jV (aVg b) b.Sources 0 with ⟨_,x,v,g,d,m⟩|⟨g,m⟩
 ·rw [m,m];unfold aVg at d;split at d
  ·cases d
  ·rename_i c;cases d;exact⟨_,rfl,rfl,λh=>absurd h c⟩
 rw [m,m,fault_5 b.Rests a.rl a.rs];have o: ∀(i:Nat) (x:eH),b.Sources[i]? =some x->aMc b i x=0:=by
  intro i x hi;have:=g i x hi;rw [Nat.zero_add]at this;unfold aVg at this;split at this
  ·assumption
  ·cases this
 have E:(gJ (decide (5000<(b.Rests.length:Int))) (some 3) (Ffg b (λ_=>Fe5 b (λ_=>Fa6 b (λ_=>some 0) (b.Sources.length:Int) 0) 1) (b.Rests.length:Int) 0))=aDf b.Rests (Fa6 b (λ_=>some 0) (b.Sources.length:Int) 0):=by
  unfold aDf;rw [yX]
  by_cases c:5000<b.Rests.length
  ·rw [if_pos c,if_pos (by omega)]
  rw [if_neg c,if_neg (by omega)];unfold Ffg;refine xY b.Rests rsF _ a.rl (λk i x g d=>?_) (λk=>?_)
  ·have F:=a.rs x (qS g);simp only [zK,yK d,zU,yY g,zC,fQ d a.rl,aXq F];rw [yX];unfold rsF
   by_cases e:rsM x=0
   ·rw [if_neg (by simpa using e),if_pos e]
   ·rw [if_pos e,if_neg e]
  ·simp only [zK,yN,zQ];have G:=a.rl;unfold Fe5;rw [aFp b.Rests (λp=>decide (p.2.Number<=p.1.Number)) (some 10) (Fa6 b (λ_=>some 0) (b.Sources.length:Int) 0) a.rl]
   ·unfold aPc
    cases(uZ b.Rests).any λp=>decide (p.2.Number<=p.1.Number)<;>rfl
   ·intro k i x _ g d m;simp only [zK,yK m,zU,yY d,zC,aTd (show i<=9223372036854775806 by omega),yY g,fQ m a.rl]
   ·intro k _ _;simp only [zK];rw [qD (by omega),zQ]
 rw [E,fault_K];rcases aEd b.Rests with ⟨v,g1,g2⟩|⟨g1,g2⟩
 ·rw [g2,g2];exact⟨v,rfl,rfl,λh=>absurd h g1⟩
 rw [g1,g1];have t:=rs_ok a.rs g2;have u:Fax b.Rests=some 0:=by
  rw [fault_l b.Rests a.rl a.rs];exact g1 (some 0)
 have q: ∀(i:Nat) (x:eH),b.Sources[i]? =some x->SzP (aLt b x)/\sH (aLt b x)=0/\0<=qI b.Map x.Param:=by
  intro i x hi;have C:=src_par (o i x hi);have hm:=qS (aOj C).1;exact⟨a.mp.ps _ hm,(s.all _ hm).ck,C⟩
 have H:Fa6 b (λ_=>some 0) (b.Sources.length:Int) 0=gJ (aYc b) (some 3) (some 0):=by
  unfold Fa6;refine aZ b.Sources (λx=> !(aPy b.Map (aLt b x) b.Rests).2) (some 3) (some 0) a.sl (λk i x g d=>?_) (λk=>by simp only [zK,yN,zQ]);obtain⟨A,B,z⟩:=q i x g;simp only [zK,yK d,zU,yY g,zC,fQ d a.sl,from_l m1 a.mp.pl z (aOj z).1 A B t u]
  cases(aPy b.Map (aLt b x) b.Rests).2<;>rfl
 have I:Fhi b (λ_=>some 0) 0=gJ (aYc b) (some 3) (some 0):=by
  unfold Fhi;refine aZ b.Sources (λx=> !(aPy b.Map (aLt b x) b.Rests).2) (some 3) (some 0) a.sl (λk i x g d=>?_) (λk=>by simp only [zK,yN,zQ]);obtain⟨A,B,z⟩:=q i x g;have w:=aOj z;have f:=aVq a.mp m2 s w.1;rw [show(((qI b.Map x.Param).toNat:Nat):Int)=qI b.Map x.Param by omega]at f;simp only [zK,yK d,zU,yY g,zC,fQ d a.sl,par_5 b.Map a.mp.pl,made_5 A B t w.2 f]
 rw [H,I]
 cases hlb:aYc b with
 |true=>exact⟨3,rfl,rfl,λh=>by cases h⟩
 |false=>exact⟨0,rfl,rfl,λ_=>⟨⟨s,m1,m2,t,u,by omega,o⟩,rfl⟩⟩
def rD (w:fC):Bool:=cO w.Number 0 4194303||cO w.Word 0 63
theorem wf_7 (a:List fC) (h:a.length<=9223372036854775807):Fb8 a=some (if a.any rD=true then 9 else 0):=by
 unfold Fb8 Fj4
 repeat (first |rw [zK]|rw [yO]|rw [zC])
 rw [aZ a rD (some 9) (some 0) h]
 ·cases a.any rD<;>rfl
 ·intro k _ _ c b;simp only [zK,yK b,zU,yY c,zC,fQ b h,out7,wB];rfl
 ·intro k;simp only [zK,yN,zQ]
theorem state_7 {b:Book} (a:aAy b.Rests) {w:fC} (e:0<=w.Word) (g:w.Word<=63):Fen b w=some (stN (aJ b.Rests w.Number) w.Word):=by
 have c:b.Rests.length<=9223372036854775807:=by have:=a.n;omega
 unfold Fen Fhs
 repeat (first |rw [zK]|rw [yO]|rw [zC])
 rw [xY b.Rests (λ_ r=>if decide (r.Number=w.Number)=true then some (some (stN r w.Word))else none) (some 0) c]
 ·rw [aDh w.Number (λr=>stN r w.Word)];unfold aJ
  cases b.Rests.find? λr=>decide (r.Number=w.Number)with
  |some r=>rfl
  |none=>
   obtain⟨i,hi⟩: ∃i:Nat,w.Word=(i:Int):=⟨w.Word.toNat,by omega⟩;show some 0=some (stN qC w.Word);rw [hi];unfold stN qC;rw [Int.toNat_natCast,List.getD_eq_getElem?_getD];show some (0:Int)=some ((List.replicate 64 (0:Int))[i]?.getD 0);rw [List.getElem?_replicate];split<;>rfl
 ·intro f i r d hi;obtain⟨s1,-⟩:=aLe (a.good r (qS d)).1 e (by omega:w.Word<64);simp only [zK,yK hi,zU,yY d,zC,fQ hi c,s1]
  cases decide (r.Number=w.Number)<;>rfl
 ·intro f;simp only [zK,yN,zQ]
theorem search_eq {l:List gV} (m:aAy l) {n:Int} (I:0<=n) (J:n<=4194303):Fe2 l n (0,(l.length:Int))=some (((l.takeWhile λr=>decide (r.Number<n)).length:Nat):Int):=by
 have v:=m.n;have o:=aGp (λr:gV=>decide (r.Number<n)) l;have f: ∀h:Nat,(hh:h<l.length)->(h<(l.takeWhile λr=>decide (r.Number<n)).length↔l[h].Number<n):=by
  intro h hh;constructor
  ·intro q;have:=aGg (q:=λr:gV=>decide (r.Number<n)) q (gE hh);simpa using this
  ·intro q
   by_cases c:h<(l.takeWhile λr=>decide (r.Number<n)).length
   ·exact c
   ·exfalso;have w:(l.takeWhile λr=>decide (r.Number<n)).length<l.length:=by omega
    have:=aFo (q:=λr:gV=>decide (r.Number<n)) (gE w);rw [decide_eq_false_iff_not]at this
    by_cases e:(l.takeWhile λr=>decide (r.Number<n)).length=h
    ·simp only [e]at this;omega
    ·have:=(List.pairwise_iff_getElem.1 m.srt) _ _ w hh (by omega);omega
 generalize (l.takeWhile λr=>decide (r.Number<n)).length=L at *
 have p: ∀B:(Int×Int->Option Int)->Int×Int->Option Int,(∀k (i j:Int),B k (i,j)=gJ (decide (i<j)) (gB (qH .u64 (IntKind.u64.wrap (IntKind.i64.wrap (i+j))) 1) λx=>gB (at' l (IntKind.i64.wrap x)) λr=>gJ (decide (IntKind.i64.wrap (r.Number-n)<0)) (k (IntKind.i64.wrap (IntKind.i64.wrap x+1),j)) (k (i,IntKind.i64.wrap x))) (some i))->
   ∀(d a i j:Nat),j-i<=d->d<a->i<=L->L<=j->j<=l.length->bZ B a ((i:Int),(j:Int))=some (L:Int):=by
  intro B y d
  induction d with
  |zero=>
   intro a i j E F z A C;obtain⟨a,rfl⟩: ∃k,a=k+1:=⟨a-1,by omega⟩;rw [bZ,y,qD (by omega),zQ]
   congr 1;omega
  |succ d D=>
   intro a i j E F z A C;obtain⟨a,rfl⟩: ∃k,a=k+1:=⟨a-1,by omega⟩;rw [bZ,y]
   by_cases c:i<j
   ·have hh:(i+j)/2<l.length:=by omega
    have s:IntKind.i64.wrap ((i:Int)+(j:Int))=((i+j:Nat):Int):=by rw [wrap_i64 (by omega) (by omega)];omega
    have t:IntKind.u64.wrap ((i+j:Nat):Int)=((i+j:Nat):Int):=wrapn_u64 _ (by omega) (by omega);have G:qH .u64 ((i+j:Nat):Int) 1=some (((i+j)/2:Nat):Int):=vO (b:=1) (by decide);have u:IntKind.i64.wrap (((i+j)/2:Nat):Int)=(((i+j)/2:Nat):Int):=wrap_i64 (by omega) (by omega);have H:l[(i+j)/2]? =some l[(i+j)/2]:=gE hh;have K:=(m.good _ (List.getElem_mem hh)).2;have g:=f _ hh;rw [dT (by omega:(i:Int)<(j:Int)),zU,s,t,G,zC,u,yY H,zC,wrap_i64 (n:=l[(i+j)/2].Number-n) (by omega) (by omega),wrap_i64 (n:=(((i+j)/2:Nat):Int)+1) (by omega) (by omega)]
    by_cases q:l[(i+j)/2].Number<n
    ·rw [dT (by omega:l[(i+j)/2].Number-n<0),zU];have:=D a ((i+j)/2+1) j (by omega) (by omega) (by have:=g.2 q;omega) A C;exact this
    ·rw [qD (by omega: ¬l[(i+j)/2].Number-n<0),zQ];have: ¬(i+j)/2<L:=λe=>q (g.1 e)
     exact D a i ((i+j)/2) (by omega) (by omega) z (by omega) (by omega)
   ·rw [qD (by omega),zQ]
    congr 1;omega
 have e: ∀B:(Int×Int->Option Int)->Int×Int->Option Int,gY B (0,(l.length:Int))=bZ B FU (((0:Nat):Int),(l.length:Int)):=λB=>rfl
 unfold Fe2;rw [e];exact p _ (λk i j=>rfl) l.length FU 0 l.length (by omega) (by unfold FU;omega) (by omega) o (Nat.le_refl _)
theorem state_l {b:Book} (a:aAy b.Rests) {w:fC} (m:0<=w.Number) (o:w.Number<=4194303) (p:0<=w.Word) (x:w.Word<=63):Fck b w=some (stN (aJ b.Rests w.Number) w.Word):=by
 have j:=a.n;have s:=aGp (λr:gV=>decide (r.Number<w.Number)) b.Rests;unfold Fck Fgs;simp only [zK];rw [search_eq a m o,zC];have k: ∀r∈b.Rests,r.Number=w.Number-> ∃hh:(b.Rests.takeWhile λr=>decide (r.Number<w.Number)).length<b.Rests.length,b.Rests[(b.Rests.takeWhile λr=>decide (r.Number<w.Number)).length]=r:=by
  intro r d g;obtain⟨i,hi,rfl⟩:=List.mem_iff_getElem.1 d;have t: ¬i<(b.Rests.takeWhile λr=>decide (r.Number<w.Number)).length:=by
   intro c;have:=aGg (q:=λr:gV=>decide (r.Number<w.Number)) c (gE hi);simp at this;omega
  have h:(b.Rests.takeWhile λr=>decide (r.Number<w.Number)).length<b.Rests.length:=by omega
  refine⟨h,?_⟩;have u:=aFo (q:=λr:gV=>decide (r.Number<w.Number)) (gE h);rw [decide_eq_false_iff_not]at u
  by_cases e:(b.Rests.takeWhile λr=>decide (r.Number<w.Number)).length=i
  ·simp only [e]
  ·have:=(List.pairwise_iff_getElem.1 a.srt) _ _ h hi (by omega);omega
 generalize hLL:(b.Rests.takeWhile λr=>decide (r.Number<w.Number)).length=L at *
 by_cases c:L<b.Rests.length
 ·have g:b.Rests[L]? =some b.Rests[L]:=gE c;have v:=a.good _ (List.getElem_mem c);rw [yK c,zU,yY g,zC];unfold Fcs;simp only [zK,zC];rw [wrap_i64 (by omega) (by omega)]
  by_cases q:b.Rests[L].Number=w.Number
  ·rw [dT (by omega:b.Rests[L].Number-w.Number=0)];show gB (at' b.Rests (L:Int)) _=_;rw [yY g,zC,qJ a.srt (List.getElem_mem c) q,(aLe v.1 p (by omega)).1,zC]
  ·rw [qD (by omega: ¬b.Rests[L].Number-w.Number=0)];show some (0:Int)=_;rw [pF (λr d f=>by obtain⟨_,e⟩:=k r d f;rw [e]at q;exact q f)];obtain⟨i,hi⟩: ∃i:Nat,w.Word=(i:Int):=⟨w.Word.toNat,by omega⟩;rw [hi];unfold stN qC;rw [Int.toNat_natCast,List.getD_eq_getElem?_getD];show some (0:Int)=some ((List.replicate 64 (0:Int))[i]?.getD 0);rw [List.getElem?_replicate];split<;>rfl
 ·rw [qD (by omega: ¬(L:Int)<(b.Rests.length:Int))];show some (0:Int)=_;rw [pF (λr d f=>by obtain⟨e,_⟩:=k r d f;exact c e)];obtain⟨i,hi⟩: ∃i:Nat,w.Word=(i:Int):=⟨w.Word.toNat,by omega⟩;rw [hi];unfold stN qC;rw [Int.toNat_natCast,List.getD_eq_getElem?_getD];show some (0:Int)=some ((List.replicate 64 (0:Int))[i]?.getD 0);rw [List.getElem?_replicate];split<;>rfl
theorem app1 (p q:List Int)(h:p.length+q.length<=140737488355328):app' 1 p q=some (p++q):=by
 unfold app';rw [if_pos ⟨by rw [Go.OB.maxLen_eq];omega,by omega⟩]
theorem aDc (p:List Int)(n:Int)(a:0<=n/\n<=18446744073709551615)(h:p.length+20<=140737488355328): ∃q,Fbn p n 10=some q/\q.length<=p.length+20:=by
 unfold Fbn;rw [if_pos ⟨rfl,a.1,a.2,h⟩];refine⟨_,rfl,?_⟩;rw [List.length_append,aEl,Lib.decDigits_length];have:=Lib.nDigits_le20 n.toNat (by omega);omega
theorem aWe (n:Int):0<=IntKind.u64.wrap n/\IntKind.u64.wrap n<=18446744073709551615:=by
 rw [IntKind.wrap_u64];omega
theorem aPe (p:List Int) (n:Int) (h:p.length+21<=140737488355328): ∃q,Fef p n 10=some q/\q.length<=p.length+21:=by
 have e: ∃q,Fdy p n 10=some q/\q.length<=p.length+21:=by
  unfold Fdy;simp only [zK,yX]
  by_cases c:n<0
  ·have d:=app1 p [45] (by simp;omega);rw [if_pos c,d,zC,zC];obtain⟨q,a,b⟩:=aDc (p++[45]) (IntKind.u64.wrap (-IntKind.u64.wrap n)) (aWe _) (by simp;omega);simp only [];rw [a,zC];exact⟨q,rfl,by simp at b;omega⟩
  ·rw [if_neg c,zC];obtain⟨q,a,b⟩:=aDc p (IntKind.u64.wrap n) (aWe _) (by omega);simp only [];rw [a,zC];exact⟨q,rfl,by omega⟩
 obtain⟨q,a,b⟩:=e;unfold Fef;rw [a,zC];exact⟨q,rfl,b⟩
def Gr (r:Option gZ)(n:Nat):Prop:= ∃q,r=some q/\q.out.length<=n
theorem Gr.bind {a:Option gZ}{k:gZ->Option gZ}{n m:Nat}(h:Gr a n)(b: ∀q,q.out.length<=n->Gr (k q) m):Gr (gB a k) m:=by
 obtain⟨q,c,d⟩:=h;rw [c,zC];exact b q d
theorem Gr.some {q:gZ}{n:Nat}(h:q.out.length<=n):Gr (Option.some q) n:=⟨q,rfl,h⟩
theorem aPv (p:gZ)(n:Int){b:Nat}(c:p.out.length<=b)(h:b<=100000000000000):Gr (Fba p n) (b+22):=by
 obtain⟨q,a,_⟩:=aPe p.out n (by omega);unfold Fba;rw [a,zC];simp only [zK];rw [app1 q [32] (by simp;omega),zC];exact Gr.some (by simp;omega)
theorem ink_Ints (p:gZ) (l:List Int) {b:Nat} (c:p.out.length<=b) (h:b+22+22*l.length<=100000000000000):Gr (Fel p l) (b+22+22*l.length):=by
 unfold Fel;simp only [zK];refine(aPv p _ c (by omega)).bind λ_ d=>?_;unfold Fip;refine aMt (λ(i:Nat) (s:List Int)=>((i:Int),s)) l (λi s=>s.length<=b+22+22*i) (λ(r:gZ)=>r.out.length<=b+22+22*l.length) (by omega) ?_ ?_ _ (by simpa using d);intro e i s x f hi a;obtain⟨r,g,_⟩:=aPv (gZ.mk s) x a (by omega);refine⟨r.out,by omega,?_⟩;simp only [zK];rw [yK hi,zU,yY f,zC,g,zC,fQ hi (by omega)];intro e s a;simp only [zK];rw [yN,zQ];exact⟨_,rfl,a⟩
theorem aUg:Fc7=some true:=by decide+kernel
def aTi (x:Part):Prop:=i64 x.Frame/\i64 x.Word/\i64 x.Low/\i64 x.Bits
def aJa (x:Param):Prop:=okS x.Name/\i64 x.Kind/\okL (λx=>aTi x) x.Parts/\i64 x.First/\i64 x.Every/\i64 x.Times/\i64 x.Step/\okL (λx=>okS x) x.Names
def okMap (x:Map):Prop:=i64 x.Version/\okL (λx=>aJa x) x.Params
def aVc (x:Line):Prop:=i64 x.From/\i64 x.To/\i64 x.A/\i64 x.B
def wM (x:eG):Prop:=i64 x.Den/\okL (λx=>aVc x) x.Lines/\i64 x.Low/\i64 x.High
def aGq (x:eH):Prop:=okS x.Track/\okS x.Param/\okL (λx=>wM x) x.Meaning/\i64 x.Long
def aIu (x:gV):Prop:=i64 x.Number/\(∀y∈x.Frame.l,(Lit.int .u16 y).wf=true)/\(∀y∈x.States.l,i64 y)/\True/\i64 x.Copies/\True
def aVm (x:Book):Prop:=okMap x.Map/\okL (λx=>aGq x) x.Sources/\okL (λx=>aIu x) x.Rests
def aKw (x:fC):Prop:=i64 x.Number/\i64 x.Word
def aGc (x:fB):Prop:=okS x.Rule/\i64 x.First/\i64 x.Number/\i64 x.Truth/\okL (λx=>aKw x) x.Words
theorem szP {p:Param}(h:aJa p):SzP p:=⟨h.1,h.2.2.1.1,h.2.2.2.2.2.2.2.1,λs a=>h.2.2.2.2.2.2.2.2 s a⟩
theorem szR {r:gV} (h:aIu r):SzR r:=by
 have c:=h.2.1;have a: ∀x∈r.Frame.l,0<=x/\x<65536:=by
  intro x d;have:=bounds_u16 (c x d);omega
 refine⟨r.Frame.l.map Int.toNat,by rw [List.length_map];exact r.Frame.h,?_,?_⟩
 ·intro i;unfold wd;rw [List.getD_eq_getElem?_getD,List.getElem?_map]
  cases hi:r.Frame.l[i]? with
  |none=>show(0:Nat)<65536;decide
  |some x=>
   have:=a x (qS hi);show x.toNat<65536;omega
 ·apply Arr.ext;unfold en;simp only [List.map_map];have: ∀l:List Int,(∀x∈l,0<=x/\x<65536)->l=l.map ((λn:Nat=>(n:Int))∘Int.toNat):=by
   intro l
   induction l with
   |nil=>intro _;rfl
   |cons x l e=>
    intro b;rw [List.map_cons,<-e λy f=>b y (List.mem_cons_of_mem _ f)];have:=b x (List.mem_cons_self ..)
    congr 1
    show x=((x.toNat:Nat):Int);omega
  exact this _ a
theorem szB {b:Book}(h:aVm b):SzB b:=
 ⟨⟨h.1.2.1,λp d=>szP (h.1.2.2 p d)⟩,h.2.1.1,λx a=>⟨(h.2.1.2 x a).1,(h.2.1.2 x a).2.2.1.1,λc e=>((h.2.1.2 x a).2.2.1.2 c e).2.1.1⟩,h.2.2.1,λr f=>szR (h.2.2.2 r f)⟩
end Go.Lf
