/- Laws that the claim stands on; no condition beyond those stated. -/
import Derived.Test.YtbjofgmdhbiekaaGreatDoorBKb
namespace Go.Lf
open Go.RowKit Go.OB Go.Fr1
theorem aLq {a:Type}{q:a->Bool}: ∀{l:List a}{i:Nat}{x:a},i<(l.takeWhile q).length->l[i]? =some x->q x=true
 | [],i,x,h,_=>by simp at h
 |z::l,i,x,h,b=>by
  rw [List.takeWhile_cons]at h
  by_cases c:q z=true
  ·rw [if_pos c]at h
   cases i with
   |zero=>simp at b;rw [<-b];exact c
   |succ i=>exact aLq (l:=l) (by simpa using h) (by simpa using b)
  ·rw [if_neg c]at h;simp at h
theorem aLw {b:Type}{q:b->Bool}: ∀{l:List b}{x:b},l[(l.takeWhile q).length]? =some x->q x=false
 | [],x,a=>by simp at a
 |z::l,x,a=>by
  rw [List.takeWhile_cons]at a
  by_cases c:q z=true
  ·rw [if_pos c]at a;exact aLw (l:=l) (by simpa using a)
  ·rw [if_neg c]at a;simp at a;rw [<-a];simpa using c
theorem aKz {a:Type}(q:a->Bool)(l:List a):(l.takeWhile q).length<=l.length:=(List.takeWhile_sublist _).length_le
theorem xW {a:Type}(q:a->Bool): ∀l:List a,l.take (l.takeWhile q).length=l.takeWhile q/\l.drop (l.takeWhile q).length=l.dropWhile q
 | []=>⟨rfl,rfl⟩
 |z::l=>by
  have b:=xW q l;rw [List.takeWhile_cons,List.dropWhile_cons]
  by_cases c:q z=true
  ·rw [if_pos c,if_pos c];exact⟨by rw [List.length_cons,List.take_succ_cons,b.1],by rw [List.length_cons,List.drop_succ_cons,b.2]⟩
  ·rw [if_neg c,if_neg c];exact⟨rfl,rfl⟩
theorem aQn {a:Type}{q:a->Bool}: ∀{l:List a}{x:a},x∈l->q x=false->x∈l.dropWhile q
 |z::l,x,h,b=>by
  rw [List.dropWhile_cons]
  by_cases c:q z=true
  ·rw [if_pos c];rcases List.mem_cons.1 h with rfl|h
   ·rw [b]at c;cases c
   ·exact aQn h b
  ·rw [if_neg c];exact h
def Srt (l:List gU):Prop:=l.Pairwise λa b=>a.Number<b.Number
theorem srt_of: ∀{l:List gU},aLt l=false->Srt l
 | [],_=>List.Pairwise.nil
 | [x],_=>List.pairwise_singleton _ _
 |x::y::l,h=>by
  have b:(decide (y.Number<=x.Number)||aLt (y::l))=false:=h;rw [Bool.or_eq_false_iff,decide_eq_false_iff_not]at b;have c:Srt (y::l):=srt_of b.2;refine List.Pairwise.cons (λz a=>?_) c;rcases List.mem_cons.1 a with rfl|a
  ·omega
  ·have:=(List.pairwise_cons.1 c).1 z a;omega
theorem aTh {q:gU->Bool}: ∀{l:List gU}{x:gU},Srt l->x∈l->q x=true->(∀a b:gU,a.Number<b.Number->q b=true->q a=true)->x∈l.takeWhile q
 |z::l,x,d,h,c,hd=>by
  obtain⟨e,f⟩:=List.pairwise_cons.1 d;rw [List.takeWhile_cons];rcases List.mem_cons.1 h with rfl|h
  ·rw [if_pos c];exact List.mem_cons_self ..
  ·rw [if_pos (hd z x (e x h) c)];exact List.mem_cons_of_mem _ (aTh f h c hd)
theorem jM {n:Int}: ∀{l:List gU}{r:gU},Srt l->r∈l->r.Number=n->eF l n=r
 |z::l,r,b,h,a=>by
  obtain⟨c,d⟩:=List.pairwise_cons.1 b;unfold eF;rw [List.find?_cons];rcases List.mem_cons.1 h with rfl|h
  ·rw [dT a];rfl
  ·have:=c r h;rw [qD (by omega: ¬z.Number=n)];exact jM d h a
theorem nH {l:List gU}{n:Int}(h: ∀r∈l,r.Number≠n):eF l n=qO:=by
 unfold eF;rw [List.find?_eq_none.2 (λr a=>by simpa using h r a)];rfl
def aEx (l:List gU)(b e:Int):List gU:=(l.dropWhile λr=>decide (r.Number<b)).takeWhile λr=>decide (r.Number<e)
theorem near_eq (l:List gU) (b e:Int) (m:l.length<=9223372036854775807):Fe5 l b e=some (aEx l b e):=by
 unfold Fe5;have s:=aKz (λr:gU=>decide (r.Number<b)) l;have hd:=(xW (λr:gU=>decide (r.Number<b)) l).2;have o: ∀a,(l.takeWhile λr:gU=>decide (r.Number<b)).length=a->Fej l b 0=some (a:Int):=by
  intro a h;unfold Fej;refine yP (λi=>(i:Int)) a (by omega) rfl (λk i hi=>?_) (λk=>?_)
  ·have f:i<l.length:=by omega
   have d:l[i]? =some l[i]:=gE f;have g:decide (l[i].Number<b)=true:=aLq (q:=λr:gU=>decide (r.Number<b)) (by rw [h];exact hi) d;simp only [zD,yB f,zO,yK d,zA,fH f m,g]
  ·by_cases c:a<l.length
   ·have d:l[a]? =some l[a]:=gE c;have g:decide (l[a].Number<b)=false:=aLw (q:=λr:gU=>decide (r.Number<b)) (by rw [h];exact d);simp only [zD,yB c,zO,yK d,zA,g,zL]
   ·have:a=l.length:=by omega
    simp only [zD,this,yE,zL,zA]
 generalize hag:(l.takeWhile λr:gU=>decide (r.Number<b)).length=a at *
 have p: ∀n,((l.drop a).takeWhile λr:gU=>decide (r.Number<e)).length=n->Fff l e (a:Int)=some ((a+n:Nat):Int):=by
  intro n h;have j:=aKz (λr:gU=>decide (r.Number<e)) (l.drop a);rw [h,List.length_drop]at j;unfold Fff;refine yP (λi=>((a+i:Nat):Int)) n (by omega) rfl (λk i hi=>?_) (λk=>?_)
  ·have f:a+i<l.length:=by omega
   have d:l[a+i]? =some l[a+i]:=gE f;have g:decide (l[a+i].Number<e)=true:=aLq (q:=λr:gU=>decide (r.Number<e)) (by rw [h];exact hi) (by rw [List.getElem?_drop];exact d);simp only [zD,yB f,zO,yK d,zA,fH f m,g];rfl
  ·by_cases c:a+n<l.length
   ·have d:l[a+n]? =some l[a+n]:=gE c;have g:decide (l[a+n].Number<e)=false:=aLw (q:=λr:gU=>decide (r.Number<e)) (l:=l.drop a) (by rw [h,List.getElem?_drop];exact d);simp only [zD,yB c,zO,yK d,zA,g,zL]
   ·have:a+n=l.length:=by omega
    simp only [zD,this,yE,zL,zA]
 rw [o a rfl,zA,p _ rfl,zA];have j:=aKz (λr:gU=>decide (r.Number<e)) (l.drop a);rw [List.length_drop]at j;have:sub' l (a:Int) ((a+((l.drop a).takeWhile λr:gU=>decide (r.Number<e)).length:Nat):Int)=some (aEx l b e):=by
  unfold sub';rw [if_pos (by omega)];unfold aEx;rw [<-hd]
  congr 1
  rw [Int.toNat_natCast,<-(xW (λr:gU=>decide (r.Number<e)) (l.drop a)).1]
  congr 1
  rw [(xW (λr:gU=>decide (r.Number<e)) (l.drop a)).1];omega
 rw [this,zA]
theorem aOv {l:List gU}{b e:Int}{r:gU}(h:r∈aEx l b e):r∈l:=(List.dropWhile_sublist _).mem ((List.takeWhile_sublist _).mem h)
theorem near_at {l:List gU} (i:Srt l) {b e n:Int} (m:b<=n) (o:n<e):eF (aEx l b e) n=eF l n:=by
 have g:Srt (l.dropWhile λr=>decide (r.Number<b)):=List.Pairwise.sublist (List.dropWhile_sublist _) i;have h:Srt (aEx l b e):=List.Pairwise.sublist (List.takeWhile_sublist _) g;by_cases c: ∃r∈l,r.Number=n;obtain⟨r,d,f⟩:=c;rw [jM i d f];refine jM h ?_ f;refine aTh g (aQn d (qD (by omega))) (dT (by omega)) (λ_ _ _ k=>?_);rw [decide_eq_true_eq]at k⊢;omega;rw [nH (λr d f=>c ⟨r,aOv d,f⟩),nH (λr d f=>c ⟨r,d,f⟩)]
def kH (g:Int)(l:List gU)(A:Arr 16 gU):Arr 16 gU:=l.foldl (λA r=>if r.Number/16=g then Arr.set A (r.Number%16) r else A) A
theorem aIm {g:Int}{f:Nat}: ∀{l:List gU}{A:Arr 16 gU},(∀r∈l,¬(r.Number/16=g/\(r.Number%16).toNat=f))->(kH g l A).l[f]? =A.l[f]?
 | [],A,_=>rfl
 |y::l,A,h=>by
  have a:=h y (List.mem_cons_self ..);unfold kH;rw [List.foldl_cons];have b:=aIm (g:=g) (f:=f) (l:=l) (A:=if y.Number/16=g then Arr.set A (y.Number%16) y else A) (λr d=>h r (List.mem_cons_of_mem _ d));refine b.trans ?_
  by_cases c:y.Number/16=g
  ·rw [if_pos c];show(A.l.set (y.Number%16).toNat y)[f]? =_;rw [List.getElem?_set_ne (λe=>a ⟨c,e⟩)]
  ·rw [if_neg c]
theorem aUe {g:Int}: ∀{l:List gU}{A:Arr 16 gU}{r:gU},Srt l->r∈l->0<=r.Number->r.Number/16=g->(kH g l A).l[(r.Number%16).toNat]? =some r
 |y::l,A,r,b,h,c,a=>by
  obtain⟨d,e⟩:=List.pairwise_cons.1 b;unfold kH;rw [List.foldl_cons];rcases List.mem_cons.1 h with rfl|h
  ·rw [if_pos a];refine(aIm (g:=g) (λx f _=>?_)).trans ?_
   ·have:=d x f;omega
   ·show(A.l.set (r.Number%16).toNat r)[(r.Number%16).toNat]? =_;rw [List.getElem?_set_self];rw [A.h];omega
  ·exact aUe e h c a
theorem win_eq (g:Int) (l:List gU) (A:Arr 16 gU) (B:l.length<=9223372036854775807) (p: ∀r∈l,0<=r.Number/\r.Number<=4194303):
  Ffp g (l,A)=some (l.dropWhile (λr=>decide (r.Number/16<=g)),kH g (l.takeWhile λr=>decide (r.Number/16<=g)) A):=by
 have u:=aKz (λr:gU=>decide (r.Number/16<=g)) l;obtain⟨s,hd⟩:=xW (λr:gU=>decide (r.Number/16<=g)) l;unfold Ffp;refine yP (λi=>(l.drop i,kH g (l.take i) A)) (l.takeWhile λr:gU=>decide (r.Number/16<=g)).length (by omega) rfl (λk i hi=>?_) (λk=>?_)
 ·have t:i<l.length:=by omega
  have b:l[i]? =some l[i]:=gE t;have m:decide (l[i].Number/16<=g)=true:=aLq (q:=λr:gU=>decide (r.Number/16<=g)) hi b;obtain⟨f,v⟩:=p _ (List.getElem_mem t);have a:decide (0<((l.drop i).length:Int))=true:=dT (by rw [List.length_drop];omega);have n:at' (l.drop i) 0=some l[i]:=yK (i:=0) (by rw [List.getElem?_drop];exact b);have d:sub' (l.drop i) 1 ((l.drop i).length:Int)=some (l.drop (i+1)):=by
   unfold sub';rw [if_pos (by rw [List.length_drop];omega)]
   congr 1
   rw [show(1:Int).toNat=1 from rfl,List.drop_drop,List.take_of_length_le];rw [List.length_drop,List.length_drop];omega
  have w:kH g (l.take (i+1)) A=if l[i].Number/16=g then Arr.set (kH g (l.take i) A) (l[i].Number%16) l[i]else kH g (l.take i) A:=by
   rw [bU b];unfold kH;rw [foldl_snoc]
  have e: ∃z,at' (kH g (l.take i) A).l (l[i].Number%16)=some z:=by
   obtain⟨j,x⟩: ∃j:Nat,l[i].Number%16=(j:Int):=⟨(l[i].Number%16).toNat,by omega⟩;rw [x,vU];have o:j<(kH g (l.take i) A).l.length:=by rw [(kH g (l.take i) A).h];omega
   exact⟨_,gE o⟩
  obtain⟨z,y⟩:=e;simp only [zD,a,zO,n,zA,d];rw [nM f (by omega) (by decide),zA,m,zA,zO,zA,aVm f (by decide),zA,y,zA,yN,w]
  by_cases c:l[i].Number/16=g
  ·rw [if_pos c,if_pos c,zA]
  ·rw [if_neg c,if_neg c,zA]
 ·by_cases c:(l.takeWhile λr:gU=>decide (r.Number/16<=g)).length<l.length
  ·have b:l[(l.takeWhile λr:gU=>decide (r.Number/16<=g)).length]? =some l[(l.takeWhile λr:gU=>decide (r.Number/16<=g)).length]:=gE c;have m:=aLw (q:=λr:gU=>decide (r.Number/16<=g)) b;obtain⟨f,v⟩:=p _ (List.getElem_mem c);have a:decide (0<((l.drop (l.takeWhile λr:gU=>decide (r.Number/16<=g)).length).length:Int))=true:=dT (by rw [List.length_drop];omega);have n:at' (l.drop (l.takeWhile λr:gU=>decide (r.Number/16<=g)).length) 0=some l[(l.takeWhile λr:gU=>decide (r.Number/16<=g)).length]:=yK (i:=0) (by rw [List.getElem?_drop];exact b);simp only [zD,a,zO,n,zA];rw [nM f (by omega) (by decide),zA,m,zA,zL,s,hd]
  ·have a:decide (0<((l.drop (l.takeWhile λr:gU=>decide (r.Number/16<=g)).length).length:Int))=false:=qD (by rw [List.length_drop];omega);simp only [zD,a,zL,zA];rw [s,hd]
theorem rest_ok {r:gU} (o:SzR r) (h:rsM r=0):pO r/\0<=r.Number/\r.Number<=4194303:=by
 obtain⟨g,_,p,f⟩:=o;unfold rsM at h;have e:r.Frame.l.map Int.toNat=g:=by rw [f];exact aRy
 rw [e]at h;have k:dC r.Number 0 4194303=false:=by
  unfold aPz at h;split at h
  ·cases h
  ·rename_i c;simpa using c
 have d:=aMw r g k;rw [h]at d;refine⟨⟨?_,?_⟩,tZ.1 k⟩
 ·intro x a;rw [f]at a;unfold en at a;obtain⟨_,q,rfl⟩:=List.mem_map.1 a;obtain⟨i,hi,rfl⟩:=List.mem_iff_getElem.1 q;have:=p i;unfold wd at this;rw [List.getD_eq_getElem?_getD,gE hi]at this;simp at this;omega
 ·intro x a;obtain⟨i,hi,rfl⟩:=List.mem_iff_getElem.1 a;rcases bV (stF r.Frame.l) r.States.l 0 with ⟨_,_,_,-,b,m⟩|⟨s,m⟩
  ·rw [m]at d;subst d;unfold stF at b;split at b
   ·cases b
   ·split at b<;>cases b
  ·exact aUq (s i _ (gE hi))
structure uQ (l:List gU):Prop where
 n:l.length<=5000
 good: ∀r∈l,pO r/\0<=r.Number/\r.Number<=4194303
 srt:Srt l
theorem rs_ok {l:List gU}(b: ∀r∈l,SzR r)(h:aTt l):uQ l:=⟨h.n,λr a=>rest_ok (b r a) (h.all r a),srt_of h.ord⟩
theorem tK {l:List gU} (h:uQ l) (n:Int):pO (eF l n):=by
 by_cases c: ∃r∈l,r.Number=n;obtain⟨r,a,b⟩:=c;rw [jM h.srt a b];exact(h.good r a).1;rw [nH (λr a b=>c ⟨r,a,b⟩)];exact aSf
theorem one_take {p:Param}(a:nV p=0):(tkP 0 ((gK p 0).flatMap dR) []).1=true:=by
 unfold nV at a;split at a;cases a;split at a;cases a;split at a;rename_i c;exact absurd a c;split at a;rename_i c;exact absurd a c;split at a;rename_i c;exact absurd a c;split at a;cases a;rename_i c;simpa using c
theorem one_sz {m:Map}{p:Param}(hm:m.Params=[p])(b:SzP p):SzM m:=⟨by rw [hm,List.length_singleton];omega,λ_ a=>by rw [hm]at a;rw [mS.1 a];exact b⟩
theorem one_chk {m:Map}{p:Param}(hm:m.Params=[p])(f:m.Version=0)(g:SzP p)(c:nV p=0):Fay m=some (-1,0):=by
 have d:=qE c;have b:=one_sz hm g;have a: ∀q∈m.Params,pM q:=λq e=>by rw [hm]at e;rw [mS.1 e];exact d
 have h:=bG d.tm 0;unfold Fay;simp only [lwi,zA,zD,yC,chkL1 m b,chkL2 m b a,chkL3 m b a];rw [hm,f,List.length_singleton];rw [show(!(decide ((0:Int)<=0)&&decide ((0:Int)<=2047)))=false from rfl,zL,show decide ((200:Int)<((1:Nat):Int))=false from rfl,zL,eU];rw [show aMc [p] 0 p=none by unfold aMc;rw [if_pos c];rfl];show aO cntF _ [p] 0 0=_;rw [aO,cntF,Go.OB.wrap_i64 (by omega) (by omega),if_neg (by omega)];show aO tkF _ [p] 0 []=_;rw [aO,tkF,if_pos (show(tkP ((0:Nat):Int) ((gK p 0).flatMap dR) []).1=true from one_take c)];rfl
theorem aRa {m:Map}{p:Param} (hm:m.Params=[p]) (a:pM p):Fb3 m=some (gK p 0):=by
 have b:=bG a.tm 0;unfold Fb3 Fgf
 repeat (first |rw [zD]|rw [yC]|rw [zA])
 rw [hm,List.length_singleton];rw [yP (r:=some (gK p 0)) (λi=>match i with |0=>([],0)|_=>(gK p 0,1)) 1 (by decide)]
 ·rfl
 ·rfl
 ·intro k i _;obtain rfl:i=0:=by omega
  simp only [zD];rw [show decide ((0:Int)<((1:Nat):Int))=true from rfl,zO,show at' [p] 0=some p from rfl,zA,aNc a.pt a.tm,zA,aG (by rw [List.length_nil];omega) (by decide),zA];rfl
 ·intro k;rfl
theorem one_ok {p:Param}(b:SzP p)(a:nV p=0):Fbb (Map.mk 0 [p])=some (gK p 0,0):=by
 unfold Fbb;rw [one_chk rfl rfl b a,zA];simp only [zD];rw [show decide ((0:Int)≠0)=false from rfl,zL,aRa rfl (qE a),zA]
def allM:List Param->Nat->List Cell
 | [],_=>[]
 |p::l,i=>gK p (i:Int)++allM l (i+1)
theorem aJj (p:Param): ∀(l:List Param) (i:Nat),allM (l++[p]) i=allM l i++gK p ((i+l.length:Nat):Int)
 | [],i=>by simp [allM]
 |q::l,i=>by rw [List.cons_append,allM,allM,aJj p l (i+1),List.append_assoc,List.length_cons,show i+1+l.length=i+(l.length+1)by omega]
theorem aGw: ∀(l:List Param) (i:Nat),(allM l i).length=(l.map λp=>(gK p 0).length).sum
 | [],_=>rfl
 |p::l,i=>by rw [allM,List.length_append,aGw l (i+1),List.map_cons,List.sum_cons,(wG p (i:Int)).2]
theorem aEi {p:Param}{a:Int}{c:Cell}(h:c∈gK p a):c.Param=a:=by
 obtain⟨_,_,_,-,-,rfl⟩:=aBm h;rfl
theorem aOu {l:List Param}{j:Nat}{p:Param}(h:l[j]? =some p):(allM l 0).filter (λc=>decide (c.Param=(j:Int)))=gK p (j:Int):=by
 have a: ∀(q:Param) (i:Nat),i≠j->(gK q (i:Int)).filter (λc=>decide (c.Param=(j:Int)))=[]:=by
  intro q i hi;rw [List.filter_eq_nil_iff];intro c b;rw [aEi b,decide_eq_true_eq];omega
 have none: ∀(l:List Param) (i:Nat),j<i->(allM l i).filter (λc=>decide (c.Param=(j:Int)))=[]:=by
  intro l
  induction l with
  |nil=>intro i _;rfl
  |cons q l d=>intro i hi;rw [allM,List.filter_append,a q i (by omega),d (i+1) (by omega)];rfl
 have e: ∀(l:List Param) (i k:Nat),i+k=j->l[k]? =some p->(allM l i).filter (λc=>decide (c.Param=(j:Int)))=gK p (j:Int):=by
  intro l
  induction l with
  |nil=>intro i k _ h;simp at h
  |cons q l d=>
   intro i k _ h;rw [allM,List.filter_append]
   cases k with
   |zero=>
    simp at h;subst h;obtain rfl:i=j:=by omega
    rw [none l (i+1) (by omega),List.append_nil,List.filter_eq_self];intro c b;rw [aEi b];exact dT rfl
   |succ k=>
    rw [a q i (by omega),d (i+1) k (by omega) (by simpa using h)];rfl
 exact e l 0 j (by omega) h
theorem aSo {m:Map} (e:SzM m) (hm:Fao m=some (0,0)) (f:MapOk m) {j:Nat}{p:Param} (h:m.Params[j]? =some p):Fb8 m (j:Int)=some (gK p (j:Int)):=by
 have s:(allM m.Params 0).length<=4000:=by rw [aGw];exact f.cnt
 have a:Ffm m=some (allM m.Params 0):=by
  unfold Ffm Fgy
  repeat (first |rw [zD]|rw [yC]|rw [zA])
  rw [yP (r:=some (allM m.Params 0)) (λi=>(allM (m.Params.take i) 0,(i:Int))) m.Params.length e.pl]
  ·rfl
  ·rfl
  ·intro k i hi;have b:m.Params[i]? =some m.Params[i]:=gE hi;have t:=f.all _ (List.getElem_mem hi);have o:(allM (m.Params.take (i+1)) 0).length<=182400:=by
    rw [aGw];have: ∀l:List Param,(∀q∈l,pM q)->(l.map λp=>(gK p 0).length).sum<=l.length*912:=by
     intro l
     induction l with
     |nil=>intro _;simp
     |cons q l u=>
      intro g;rw [List.map_cons,List.sum_cons,List.length_cons];have:=u λz e=>g z (List.mem_cons_of_mem _ e)
      have:=bG (g q (List.mem_cons_self ..)).tm 0;omega
    have v:=this (m.Params.take (i+1)) λq g=>f.all q (List.mem_of_mem_take g)
    rw [List.length_take]at v;have:=f.n;have:min (i+1) m.Params.length<=200:=by omega
    generalize min (i+1) m.Params.length=z at *
    omega
   have d:allM (m.Params.take (i+1)) 0=allM (m.Params.take i) 0++gK m.Params[i] (i:Int):=by
    rw [bU b,aJj,List.length_take,show 0+min i m.Params.length=i by omega]
   rw [d,List.length_append]at o;simp only [zD,yB hi,zO,yK b,zA,aFz t.pt t.tm];rw [aG (by omega) (by decide),zA,fH hi e.pl,d]
  ·intro k;simp only [zD,yE,zL,List.take_length]
 unfold Fb8 Fh8;rw [hm,zA];simp only [zD];rw [show decide ((0:Int)≠0)=false from rfl,zL,a,zA,zA];unfold Fig;rw [yP (r:=some (gK p (j:Int))) (λi=>(((allM m.Params 0).take i).filter (λc=>decide (c.Param=(j:Int))),(i:Int))) (allM m.Params 0).length (by omega)]
 ·rfl
 ·rfl
 ·intro k i hi;have b:(allM m.Params 0)[i]? =some (allM m.Params 0)[i]:=gE hi;have w:(((allM m.Params 0).take i).filter (λc=>decide (c.Param=(j:Int)))).length<=4000:=Nat.le_trans (List.length_filter_le _ _) (by rw [List.length_take];omega);simp only [zD,yB hi,zO,yK b,zA,fH hi (by omega)];rw [aG (by rw [List.length_singleton];omega) (by decide),zA,bU b,List.filter_append]
  by_cases c:(allM m.Params 0)[i].Param=(j:Int)
  ·rw [dT c,zO,zA,show [(allM m.Params 0)[i]].filter (λc=>decide (c.Param=(j:Int)))=[(allM m.Params 0)[i]]by simp [c]]
  ·rw [qD c,zL,zA,show [(allM m.Params 0)[i]].filter (λc=>decide (c.Param=(j:Int)))=[]by simp [c],List.append_nil]
 ·intro k;simp only [zD,yE,zL,List.take_length,aOu h]
def dS (m:Map)(p:Param)(a:List gU)(base:Int)(c:Cell):fC:=fC.mk (nU p base c) (aEk m p (eF a) base c.Places).1 (aEk m p (eF a) base c.Places).2
def aJb (m:Map)(p:Param)(a:List gU)(cs:List Cell)(g:Int):List fC:=cs.map (dS m p a (g*16))
def kJ (m:Map)(p:Param)(a:List gU)(cs:List Cell)(n0:Int)(k:Nat):List fC:=(List.range k).flatMap λ(j:Nat)=>aJb m p a cs (n0+(j:Int))
theorem aAx (m:Map)(p:Param)(a:List gU)(cs:List Cell)(n0:Int)(k:Nat):kJ m p a cs n0 (k+1)=kJ m p a cs n0 k++aJb m p a cs (n0+(k:Int)):=by
 unfold kJ;rw [List.range_succ,List.flatMap_append,List.flatMap_singleton]
theorem pY (m:Map)(p:Param)(a:List gU)(cs:List Cell)(n0:Int): ∀k,(kJ m p a cs n0 k).length=k*cs.length
 |0=>by simp [kJ]
 |k+1=>by rw [aAx,List.length_append,pY m p a cs n0 k,Nat.add_mul,Nat.one_mul];unfold aJb;rw [List.length_map]
theorem cells_pi (p:Param) (a:Int):gK p a=(gK p 0).map λc=>Cell.mk a c.Index c.Frame c.Places:=by
 apply List.ext_getElem?;intro i;rw [List.getElem?_map];have j:(gK p a).length=(gK p 0).length:=(wG p a).2;by_cases hi:i<(gK p 0).length;have b:(gK p 0)[i]? =some (gK p 0)[i]:=gE hi;have d:(gK p a)[i]? =some ((gK p a)[i]'(by omega)):=gE (by omega);obtain⟨s,f,a2,-⟩:=aAn (dE p) b;obtain⟨g,e,h,-⟩:=aAn (dE p) d;rw [f]at e;obtain rfl:s=g:=by simpa using e
 rw [b,d,a2,h];rfl;rw [List.getElem?_eq_none (by omega),List.getElem?_eq_none (by omega)];rfl
theorem sec_pi (m:Map)(p:Param)(a:List gU)(b g:Int):aJb m p a (gK p b) g=aJb m p a (gK p 0) g:=by
 rw [cells_pi p b];unfold aJb;rw [List.map_map];rfl
theorem tY {p:Param}(a:pM p){b:Int}{c:Cell}(d:c∈gK p b):c.Places.length<=8/\(∀x∈c.Places,aId x)/\qV c.Places=(jR p.Parts).toNat:=by
 obtain⟨s,t,_,e,f,rfl⟩:=aBm d;have:=aOw a s (t:Int);exact⟨this.2,λx g=>place_ok a e f g,this.1⟩
def aHd (a:List gU)(n0:Int):Nat->List gU
 |0=>a
 |j+1=>(aHd a n0 j).dropWhile λr=>decide (r.Number/16<=n0+(j:Int))
theorem aCx (a:List gU)(n0:Int): ∀j,(aHd a n0 j).Sublist a
 |0=>List.Sublist.refl _
 |j+1=>(List.dropWhile_sublist _).trans (aCx a n0 j)
theorem aQh {a:List gU}{n0:Int}{r:gU}(b:r∈a): ∀j:Nat,n0+(j:Int)<=r.Number/16->r∈aHd a n0 j
 |0,_=>b
 |j+1,h=>aQn (aQh b j (by omega)) (qD (by omega))
theorem win_at {d:List gU} (h:uQ d) {n0:Int} (j:Nat) (s:0<=n0+(j:Int)) {f:Int} (f0:0<=f) (f1:f<=15):
  at' (kH (n0+(j:Int)) ((aHd d n0 j).takeWhile λr=>decide (r.Number/16<=n0+(j:Int))) (Arr.rep 16 qO)).l f=some (eF d ((n0+(j:Int))*16+f)):=by
 have k:Srt (aHd d n0 j):=List.Pairwise.sublist (aCx d n0 j) h.srt;have n:Srt ((aHd d n0 j).takeWhile λr=>decide (r.Number/16<=n0+(j:Int))):=List.Pairwise.sublist (List.takeWhile_sublist _) k;obtain⟨i,rfl⟩: ∃i:Nat,f=(i:Int):=⟨f.toNat,by omega⟩;rw [vU]
 by_cases c: ∃r∈d,r.Number=(n0+(j:Int))*16+(i:Int)
 ·obtain⟨r,e,o⟩:=c;rw [jM h.srt e o];have hm:r∈(aHd d n0 j).takeWhile λr=>decide (r.Number/16<=n0+(j:Int)):=by
   refine aTh k (aQh e j (by omega)) (dT (by omega)) (λ_ _ _ p=>?_);rw [decide_eq_true_eq]at p⊢;omega
  have:=aUe (g:=n0+(j:Int)) (A:=Arr.rep 16 qO) n hm (by omega) (by omega);rw [show(r.Number%16).toNat=i by omega]at this;exact this
 ·rw [nH (λr e o=>c ⟨r,e,o⟩)];rw [aIm (λr e p=>?_)]
  ·show(List.replicate 16 qO)[i]? =some qO;rw [List.getElem?_replicate,if_pos (by omega)]
  ·have m:r∈d:=(aCx d n0 j).mem ((List.takeWhile_sublist _).mem e);exact c ⟨r,m,by have:=(h.good r m).2;omega⟩
theorem aKm {m:Map}{p:Param}{a:List gU} (u:SzP p) (q:nV p=0) (h:uQ a) {n0 d:Int} (k:Nat) (C:0<=n0) (D:n0+(k:Int)=d+1) (E:d<=262143) (s:k*(gK p 0).length<=20000):
  Fa0 m p (gK p 0) a n0 d=some (kJ m p a (gK p 0) n0 k):=by
 have e:=qE q;have v:(gK p 0).length<=912:=bG e.tm 0;unfold Fa0 Fir;rw [yP (r:=some (kJ m p a (gK p 0) n0 k)) (λj=>(aHd a n0 j,kJ m p a (gK p 0) n0 j,n0+(j:Int))) k (by omega)]
 ·rfl
 ·show(a,[],n0)=(a,kJ m p a (gK p 0) n0 0,n0+((0:Nat):Int));rw [Int.natCast_zero,Int.add_zero];rfl
 ·intro f j _;have b:=aCx a n0 j;have w:=b.length_le;have G:=h.n;have g:=pY m p a (gK p 0) n0 j;have t:j*(gK p 0).length+(gK p 0).length<=20000:=by
   have:(j+1)*(gK p 0).length<=k*(gK p 0).length:=Nat.mul_le_mul_right _ (by omega);rw [Nat.add_mul,Nat.one_mul]at this;omega
  simp only [zD];rw [dT (by omega:n0+(j:Int)<=d),zO,win_eq _ _ _ (by omega) (λr y=>(h.good r (b.mem y)).2),zA];simp only;rw [Go.OB.wrap_i64 (n:=(n0+(j:Int))*16) (by omega) (by omega),times_l' e (by omega) (by omega) 0,zA];have z:Fec m p (gK p 0) ((aHd a n0 j).dropWhile λr=>decide (r.Number/16<=n0+(j:Int))) (kH (n0+(j:Int)) ((aHd a n0 j).takeWhile λr=>decide (r.Number/16<=n0+(j:Int))) (Arr.rep 16 qO)) ((gK p 0).map (nU p ((n0+(j:Int))*16))) ((gK p 0).length:Int) (kJ m p a (gK p 0) n0 j,0)=some (aHd a n0 (j+1),kJ m p a (gK p 0) n0 (j+1)):=by
   unfold Fec;refine yP (λi=>(kJ m p a (gK p 0) n0 j++((gK p 0).take i).map (dS m p a ((n0+(j:Int))*16)),(i:Int))) (gK p 0).length (by omega) ?_ (λf i hi=>?_) (λf=>?_)
   ·show _=(kJ m p a (gK p 0) n0 j++[],_);rw [List.append_nil];rfl
   ·have l:(gK p 0)[i]? =some (gK p 0)[i]:=gE hi;obtain⟨A,c2,c3⟩:=tY e (List.getElem_mem hi);have B:at' ((gK p 0).map (nU p ((n0+(j:Int))*16))) (i:Int)=some (nU p ((n0+(j:Int))*16) (gK p 0)[i]):=yK (by rw [List.getElem?_map,l];rfl);simp only [zD,yB hi,zO,yK l,zA];rw [read_eq m p (gK p 0)[i] _ (eF a) ((n0+(j:Int))*16) u q A (λx o=>⟨c2 x o,tK h _,win_at h j (by omega) (c2 x o).f0 (c2 x o).f1⟩) c3,zA];rw [B,zA,aG (by rw [List.length_append,g,List.length_map,List.length_take,List.length_singleton];omega) (by decide),zA,fH hi (by omega),bU l,List.map_append,List.map_singleton,<-List.append_assoc];rfl
   ·simp only [zD,yE,zL,List.take_length];rw [aAx];rfl
  have c:(Arr.rep 16 (gU.mk 0 (Arr.rep 64 0:Arr 64 Int) (Arr.rep 64 0:Arr 64 Int) false 0 false):Arr 16 gU)=Arr.rep 16 qO:=rfl;rw [c,z,zA];rw [Go.OB.wrap_i64 (n:=n0+(j:Int)+1) (by omega) (by omega),show n0+(j:Int)+1=n0+((j+1:Nat):Int)by omega]
 ·intro f;simp only [zD];rw [qD (by omega),zL]
theorem samples_5 {m:Map}{p:Param}{b:List gU} (y:SzP p) (t:nV p=0) (h:uQ b) {a:Int} (u:at' m.Params a=some p) {n0 c:Int} (k:Nat) (F:0<=n0) (G:n0+(k:Int)=c+1) (H:c<=262143) (v:k*(gK p 0).length<=20000):
  Fdl m a b (gK p a) (c*16) (n0*16,[])=some (kJ m p b (gK p 0) n0 k):=by
 have d:=qE t;have z:(gK p 0).length<=912:=bG d.tm 0;have A:(gK p a).length=(gK p 0).length:=(wG p a).2;unfold Fdl;refine yP (λj=>((n0+(j:Int))*16,kJ m p b (gK p 0) n0 j)) k (by omega) ?_ (λe j _=>?_) (λe=>?_)
 ·show _=((n0+((0:Nat):Int))*16,_);rw [Int.natCast_zero,Int.add_zero];rfl
 ·have J:=h.n;have f:=pY m p b (gK p 0) n0 j;have w:j*(gK p 0).length+(gK p 0).length<=20000:=by
   have:(j+1)*(gK p 0).length<=k*(gK p 0).length:=Nat.mul_le_mul_right _ (by omega);rw [Nat.add_mul,Nat.one_mul]at this;omega
  simp only [zD];rw [dT (by omega:(n0+(j:Int))*16<=c*16),zO,u,zA,times_5 d (by omega) (by omega) a,zA,Go.OB.wrap_i64 (n:=(n0+(j:Int))*16+16) (by omega) (by omega),near_eq _ _ _ (by omega),zA];have g:(aEx b ((n0+(j:Int))*16) ((n0+(j:Int))*16+16)).length<=9223372036854775807:=by
   have:=((List.takeWhile_sublist (λr:gU=>decide (r.Number<(n0+(j:Int))*16+16)) (l:=b.dropWhile λr=>decide (r.Number<(n0+(j:Int))*16))).trans (List.dropWhile_sublist _)).length_le;show((b.dropWhile λr=>decide (r.Number<(n0+(j:Int))*16)).takeWhile λr=>decide (r.Number<(n0+(j:Int))*16+16)).length<=_;omega
  have B:Fdf m (gK p a) ((n0+(j:Int))*16) ((gK p a).map (nU p ((n0+(j:Int))*16))) (aEx b ((n0+(j:Int))*16) ((n0+(j:Int))*16+16)) (0,kJ m p b (gK p 0) n0 j)=some (kJ m p b (gK p 0) n0 (j+1)):=by
   unfold Fdf;refine yP (λi=>((i:Int),kJ m p b (gK p 0) n0 j++((gK p a).take i).map (dS m p b ((n0+(j:Int))*16)))) (gK p a).length (by omega) ?_ (λe i hi=>?_) (λe=>?_)
   ·show _=(_,kJ m p b (gK p 0) n0 j++[]);rw [List.append_nil];rfl
   ·have o:(gK p a)[i]? =some (gK p a)[i]:=gE hi;obtain⟨C,c2,c3⟩:=tY d (List.getElem_mem hi);have q:at' m.Params (gK p a)[i].Param=some p:=by rw [aEi (List.getElem_mem hi)];exact u
    have D:at' ((gK p a).map (nU p ((n0+(j:Int))*16))) (i:Int)=some (nU p ((n0+(j:Int))*16) (gK p a)[i]):=yK (by rw [List.getElem?_map,o];rfl);simp only [zD,yB hi,zO,yK o,zA];rw [sample_eq m p (gK p a)[i] _ (eF b) ((n0+(j:Int))*16) y t C (by omega) (by omega) g (λr E=>(h.good r (aOv E)).1)
     (λx s=>⟨c2 x s,tK h _,near_at h.srt (by have:=(c2 x s).f0;omega) (by have:=(c2 x s).f1;omega)⟩) c3 q,zA]
    rw [D,zA,aG (by rw [List.length_append,f,List.length_map,List.length_take,List.length_singleton];omega) (by decide),zA,fH hi (by omega),bU o,List.map_append,List.map_singleton,<-List.append_assoc];rfl
   ·simp only [zD,yE,zL,List.take_length];rw [aAx,<-sec_pi m p b a];rfl
  rw [B,zA]
  congr 2
  omega
 ·simp only [zD];rw [qD (by omega),zL]
def dK (a:List gU):Int:=match a.getLast? with
 |some r=>r.Number/16
 |none=>0
def dY (a:List gU):Int:=match a.head? with
 |some r=>r.Number/16
 |none=>0
def aV (a:List gU):Nat:=(dK a-dY a+1).toNat
def kS (m:Map)(p:Param)(a:List gU):Series×Bool:=if a=[]then(Series.mk 1 [],true)else if 20000<(aV a:Int)*(gK p 0).length+1 then(Series.mk 0 [],false)else(Series.mk 1 (kJ m p a (gK p 0) (dY a) (aV a)++[fC.mk ((dK a+1)*1024) 0 0]),true)
theorem ends {c:List gU} (h:uQ c) (d:c≠[]): ∃a b,at' c 0=some a/\at' c (IntKind.i64.wrap ((c.length:Int)-1))=some b/\dY c=a.Number/16/\dK c=b.Number/16/\0<=a.Number/\b.Number<=4194303/\a.Number<=b.Number:=by
 have f:=h.n
 cases c with
 |nil=>exact absurd rfl d
 |cons a l=>
  have e:(a::l)[l.length]? =some ((a::l)[l.length]'(by simp)):=gE (by simp);refine⟨a,(a::l)[l.length]'(by simp),rfl,?_,rfl,?_,(h.good a (List.mem_cons_self ..)).2.1,(h.good _ (List.getElem_mem (by simp))).2.2,?_⟩
  ·rw [List.length_cons]at f⊢;rw [wrap_i64 (by omega) (by omega),show((l.length+1:Nat):Int)-1=(l.length:Int)by omega];exact yK e
  ·unfold dK;rw [List.getLast?_eq_getElem?,List.length_cons,show l.length+1-1=l.length by omega,e]
  ·cases l with
   |nil=>exact Int.le_refl _
   |cons b l=>
    have g:=(List.pairwise_cons.1 h.srt).1 ((a::b::l)[(b::l).length]'(by simp)) (by
     show(b::l)[l.length]'(by simp)∈b::l;exact List.getElem_mem _)
    omega
theorem made_5 {m:Map}{p:Param}{d:List gU}(t:SzP p)(q:nV p=0)(h:uQ d){g:Int}(u:at' m.Params g=some p)(f:Fb8 m g=some (gK p g)):Fez m g d=some (kS m p d):=by
 have v:=qE q;have w:(gK p 0).length<=912:=bG v.tm 0;have j:(gK p g).length=(gK p 0).length:=(wG p g).2;unfold Fez kS
 repeat (first |rw [zD]|rw [yC]|rw [zA])
 rw [yN]
 by_cases i:d=[]
 ·subst i;rfl
 have r:d.length≠0:=λe=>i (List.eq_nil_of_length_eq_zero e)
 rw [if_neg (by omega),if_neg i,f,zA];obtain⟨_,_,x,y,k,l,a0,_,_⟩:=ends h i;have A:(aV d:Int)=dK d-dY d+1:=by unfold aV;rw [k,l];omega
 rw [x,zA,nM a0 (by omega) (by decide),zA,zD,zD,zD,y,zA,nM (by omega) (by omega) (by decide),zA,<-k,<-l];simp only [zD];have s:0<=dY d/\dY d<=dK d/\dK d<=262143:=by rw [k,l];omega
 have o:0<=(aV d:Int)*((gK p 0).length:Int)/\(aV d:Int)*((gK p 0).length:Int)<=262144*912:=by
  refine⟨Int.mul_nonneg (by omega) (by omega),?_⟩;exact Int.mul_le_mul (by omega) (by omega) (by omega) (by omega)
 rw [wrap_i64 (n:=dY d*16) (by omega) (by omega),wrap_i64 (n:=dK d*16) (by omega) (by omega),wrap_i64 (n:=dK d*16-dY d*16) (by omega) (by omega),nM (by omega) (by omega) (by decide),zA,
  show(dK d*16-dY d*16)/16=dK d-dY d by omega,wrap_i64 (n:=dK d-dY d+1) (by omega) (by omega),<-A,j,wrap_i64 (n:=(aV d:Int)*((gK p 0).length:Int)) (by omega) (by omega),wrap_i64 (n:=(aV d:Int)*((gK p 0).length:Int)+1) (by omega) (by omega),yN]
 by_cases c:20000<(aV d:Int)*((gK p 0).length:Int)+1
 ·rw [if_pos c,if_pos c]
 rw [if_neg c,if_neg c];have B:aV d*(gK p 0).length<=20000:=by
  have:((aV d*(gK p 0).length:Nat):Int)=(aV d:Int)*((gK p 0).length:Int):=Int.natCast_mul _ _;omega
 rw [samples_5 t q h u (aV d) s.1 (by omega) s.2.2 B,zA,wrap_i64 (n:=dK d*16+16) (by omega) (by omega),wrap_i64 (n:=64*(dK d*16+16)) (by omega) (by omega),aG (by rw [pY,List.length_singleton];omega) (by decide),zA,
  show(64:Int)*(dK d*16+16)=(dK d+1)*1024 by omega]
theorem from_l {m:Map}{s:Str}{p:Param}{d:List gU}(hm:Fai m=some (0,0))(g:m.Params.length<=9223372036854775807)(hi:0<=nN m s)(j:m.Params[(nN m s).toNat]? =some p)(u:SzP p)(k:nV p=0)(h:uQ d)(x:Fah d=some 0):
  Fc5 m s d=some ((kS m p d).1,if (kS m p d).2=true then 0 else 3):=by
 have y:=qE k;have z:(gK p 0).length<=912:=bG y.tm 0;have l:at' m.Params (nN m s)=some p:=by
  obtain⟨i,o⟩: ∃i:Nat,nN m s=(i:Int):=⟨(nN m s).toNat,by omega⟩;rw [o]at j⊢;rw [Int.toNat_natCast]at j;exact yK j
 unfold Fc5 kS;rw [hm,zA];simp only [zD];rw [show decide ((0:Int)≠0)=false from rfl,zL,par_idxR m g s,zA,qD (by omega),zL,x,zA,show decide ((0:Int)≠0)=false from rfl,zL,yN]
 by_cases f:d=[]
 ·subst f;rfl
 have v:d.length≠0:=λe=>f (List.eq_nil_of_length_eq_zero e)
 rw [if_neg (by omega),if_neg f,l,zA,one_ok u k,zA];obtain⟨_,_,A,B,q,r,a0,_,_⟩:=ends h f;have D:(aV d:Int)=dK d-dY d+1:=by unfold aV;rw [q,r];omega
 rw [A,zA,nM a0 (by omega) (by decide),zA,B,zA,nM (by omega) (by omega) (by decide),zA,<-q,<-r];have w:0<=dY d/\dY d<=dK d/\dK d<=262143:=by rw [q,r];omega
 have t:0<=(aV d:Int)*((gK p 0).length:Int)/\(aV d:Int)*((gK p 0).length:Int)<=262144*912:=by
  refine⟨Int.mul_nonneg (by omega) (by omega),?_⟩;exact Int.mul_le_mul (by omega) (by omega) (by omega) (by omega)
 rw [wrap_i64 (n:=dK d-dY d) (by omega) (by omega),wrap_i64 (n:=dK d-dY d+1) (by omega) (by omega),<-D,wrap_i64 (n:=(aV d:Int)*((gK p 0).length:Int)) (by omega) (by omega),wrap_i64 (n:=(aV d:Int)*((gK p 0).length:Int)+1) (by omega) (by omega),yN]
 by_cases c:20000<(aV d:Int)*((gK p 0).length:Int)+1
 ·rw [if_pos c,if_pos c];rfl
 rw [if_neg c,if_neg c];have E:aV d*(gK p 0).length<=20000:=by
  have:((aV d*(gK p 0).length:Nat):Int)=(aV d:Int)*((gK p 0).length:Int):=Int.natCast_mul _ _;omega
 rw [aKm u k h (aV d) w.1 (by omega) w.2.2 E,zA,wrap_i64 (n:=dK d+1) (by omega) (by omega),wrap_i64 (n:=(dK d+1)*1024) (by omega) (by omega),aG (by rw [pY,List.length_singleton];omega) (by decide),zA];rfl
structure aDq (b:Book):Prop where
 mp:MapOk b.Map
 ml:Fai b.Map=some (0,0)
 m2:Fao b.Map=some (0,0)
 rs:uQ b.Rests
 rl:Fah b.Rests=some 0
 sn:b.Sources.length<=30
 src: ∀(i:Nat) (x:fG),b.Sources[i]? =some x->aEc b i x=0
def kV (b:Book)(x:fG):Param:=(b.Map.Params[(nN b.Map x.Param).toNat]?).getD (Param.mk [] 0 [] 0 0 0 0 [])
theorem aTz {b:Book}{i:Nat}{x:fG}(h:aEc b i x=0):0<=nN b.Map x.Param:=by
 unfold aEc at h;split at h;cases h;split at h;cases h;split at h;cases h;omega
theorem aCl {b:Book}{x:fG} (h:0<=nN b.Map x.Param):b.Map.Params[(nN b.Map x.Param).toNat]? =some (kV b x)/\at' b.Map.Params (nN b.Map x.Param)=some (kV b x):=by
 rcases aHn (λy:Param=>decide (y.Name=x.Param)) b.Map.Params 0 with ⟨a,-⟩|⟨j,y,a,c,-,-⟩
 ·have:nN b.Map x.Param= -1:=a;omega
 ·have e:nN b.Map x.Param=(j:Int):=by rw [Nat.zero_add]at a;exact a
  have d:kV b x=y:=by unfold kV;rw [e,Int.toNat_natCast,c];rfl
  rw [e,Int.toNat_natCast,d];exact⟨c,yK c⟩
def aBo (l:List gU)(fin:Option Int):Option Int:=if 5000<l.length then some 3 else eU rsF (if aLt l=true then some 10 else fin) l 0
theorem aDg (l:List gU):(∃v:Int,v≠0/\ ∀fin,aBo l fin=some v)\/((∀fin,aBo l fin=fin)/\aTt l):=by
 unfold aBo
 by_cases a:5000<l.length
 ·exact .inl ⟨3,by decide,λfin=>by rw [if_pos a]⟩
 rcases bV rsF l 0 with ⟨j,x,v,e,b,d⟩|⟨e,d⟩
 ·unfold rsF at b;split at b
  ·cases b
  ·rename_i c;cases b;exact .inl ⟨rsM x,c,λfin=>by rw [if_neg a,d]⟩
 ·cases ho:aLt l with
  |true=>exact .inl ⟨10,by decide,λfin=>by rw [if_neg a,d];rfl⟩
  |false=>
   refine .inr ⟨λfin=>by rw [if_neg a,d];rfl,by omega,?_,ho⟩;intro _ f;obtain⟨j,g,rfl⟩:=List.mem_iff_getElem.1 f;have:=e j _ (gE g);unfold rsF at this;split at this
   ·assumption
   ·cases this
theorem fault_K (l:List gU)(fin:Option Int):(gB (aDx l) λx=>gI (decide (x≠0)) (some x) fin)=aBo l fin:=by
 have e:aDx l=aBo l (some 0):=rfl;rw [e];rcases aDg l with ⟨_,a,b⟩|⟨a,-⟩
 ·rw [b,b,zA,dT a];rfl
 ·rw [a,a,zA];rfl
def aQk (b:Book):Nat->fG->Option (Option Int):=λi x=>if aEc b i x=0 then none else some (some (aEc b i x))
theorem bookL1 {b:Book}(a:SzB b)(fin:Option Int):Ffj b (λ_=>fin) (b.Sources.length:Int) 0=eU (aQk b) fin b.Sources 0:=by
 unfold Ffj;refine xG b.Sources _ _ a.sl (λk i x d c=>?_) (λk=>by simp only [zD,yE,zL]);simp only [zD,yB c,zO,src_l a d,zA,fH c a.sl];rw [yN];unfold aQk;by_cases e:aEc b i x=0;rw [if_neg (by simpa using e),if_pos e];rw [if_pos e,if_neg e]
theorem bookR1 {b:Book} (g:SzB b) (fin:Option Int):Fdq b (λ_=>fin) 0=eU (aQk b) fin b.Sources 0:=by
 unfold Fdq;refine xG b.Sources _ _ g.sl (λk i x q r=>?_) (λk=>by simp only [zD,yE,zL]);have s:=g.ss x (qS q);have t:=g.sl;simp only [zD,yC,yB r,zO,yK q,zA,fH r g.sl,aHh x.Track s.tr];unfold aQk aEc
 cases aEf x.Track with
 |false=>rfl
 |true=>
  simp only [Bool.not_true,zL,Bool.true_eq_false,if_false];unfold Fis;have h:(b.Sources.take i).length=i:=by rw [List.length_take];omega
  rw [jJ (b.Sources.take i) (λy=>decide (y.Track=x.Track)) (some 5) (gB (Fbi b.Map x.Param) λn=>gI (decide (n<0)) (some 4) (gI (decide (1<(x.Meaning.length:Int))) (some 2)
    (gI (decide ((x.Meaning.length:Int)=1)) (gB (at' x.Meaning 0) λo=>gB (Fcj o) λm=>gI (decide (m≠0)) (some m) (gB (Fba x.Long 0 1099511627776) λa=>gI a (some 9) (k ((i+1:Nat):Int)))) (gB (Fba x.Long 0 1099511627776) λa=>gI a (some 9) (k ((i+1:Nat):Int)))))) (by omega)
   (λu j y g1 g2=>by
    rw [h]at g2;have p:b.Sources[j]? =some y:=by rw [List.getElem?_take]at g1;rw [if_pos g2]at g1;exact g1
    simp only [zD,yB g2,zO,yK p,zA,fH g2 (by omega)])
   (λu=>by simp only [zD,h,yE,zL])]
  cases((b.Sources.take i).any λy=>decide (y.Track=x.Track))with
  |true=>rfl
  |false=>
   simp only [zL,Bool.false_eq_true,if_false];rw [par_5 b.Map g.mp.pl,zA,yN]
   by_cases c4:nN b.Map x.Param<0
   ·rw [if_pos c4,if_pos c4];rfl
   rw [if_neg c4,if_neg c4,yN]
   by_cases c2:1<x.Meaning.length
   ·rw [if_pos c2,if_pos (by omega)];rfl
   rw [if_neg c2,if_neg (by omega),out7];simp only [zA];have f: ∀z,gI (decide (x.Long<0)||decide (1099511627776<x.Long)) (some (9:Int)) z=if dC x.Long 0 1099511627776=true then some 9 else z:=by
    intro z;show gI (dC x.Long 0 1099511627776) _ _=_
    cases dC x.Long 0 1099511627776<;>rfl
   rw [f];unfold aIh;rcases hm:x.Meaning with _|⟨c,_|⟨_,_⟩⟩
   ·cases dC x.Long 0 1099511627776<;>rfl
   ·rw [show decide ((([c]:List gZ).length:Int)=1)=true from rfl,zO,show at' [c] 0=some c from rfl,zA,cal_5 c (s.ms c (by rw [hm];exact List.mem_cons_self ..)),aGb,zA,yN]
    by_cases e:aEp c=0
    ·simp only [e,ne_eq,not_true,if_false]
     cases dC x.Long 0 1099511627776<;>rfl
    ·simp only [e,ne_eq,not_false_eq_true,if_true,if_false]
   ·rw [hm]at c2;simp at c2
def aBg (b:Book):Bool:=b.Sources.any λx=> !(kS b.Map (kV b x) b.Rests).2
theorem aPr {b:Book} (a:SzB b): ∃e,Fbl b=some e/\Fge b=some e/\(e=0->aDq b/\aBg b=false):=by
 obtain⟨v,m1,m2,m3⟩:=map_two a.mp;unfold Fbl Fge;rw [m1,m2,zA,zA];obtain⟨_,v2⟩:=v;simp only [zD,yC]
 by_cases c0: ¬v2=0
 ·rw [dT c0];exact⟨v2,rfl,rfl,λh=>absurd h c0⟩
 have c0:v2=0:=by omega
 subst c0;obtain⟨rfl,q⟩:=m3 rfl;rw [show decide ((0:Int)≠0)=false from rfl,zL,zL]
 by_cases B:30<b.Sources.length
 ·rw [dT (show(30:Int)<(b.Sources.length:Int)by omega),zO,zO];exact⟨3,rfl,rfl,λh=>by cases h⟩
 rw [qD (show¬(30:Int)<(b.Sources.length:Int)by omega),zL,zL,bookL1 a,bookR1 a];rcases bV (aQk b) b.Sources 0 with ⟨_,x,v,g,d,l⟩|⟨g,l⟩
 ·rw [l,l];unfold aQk at d;split at d
  ·cases d
  ·rename_i c;cases d;exact⟨_,rfl,rfl,λh=>absurd h c⟩
 rw [l,l,fault_5 b.Rests a.rl a.rs];have m: ∀(i:Nat) (x:fG),b.Sources[i]? =some x->aEc b i x=0:=by
  intro i x hi;have:=g i x hi;rw [Nat.zero_add]at this;unfold aQk at this;split at this
  ·assumption
  ·cases this
 have C:(gI (decide (5000<(b.Rests.length:Int))) (some 3) (Fd6 b (λ_=>Ffo b (λ_=>Faq b (λ_=>some 0) (b.Sources.length:Int) 0) 1) (b.Rests.length:Int) 0))=aBo b.Rests (Faq b (λ_=>some 0) (b.Sources.length:Int) 0):=by
  unfold aBo;rw [yN]
  by_cases c:5000<b.Rests.length
  ·rw [if_pos c,if_pos (by omega)]
  rw [if_neg c,if_neg (by omega)];unfold Fd6;refine xG b.Rests rsF _ a.rl (λk i x g d=>?_) (λk=>?_)
  ·have D:=a.rs x (qS g);simp only [zD,yB d,zO,yK g,zA,fH d a.rl,aVv D];rw [yN];unfold rsF
   by_cases e:rsM x=0
   ·rw [if_neg (by simpa using e),if_pos e]
   ·rw [if_pos e,if_neg e]
  ·simp only [zD,yE,zL];have E:=a.rl;unfold Ffo;rw [aDy b.Rests (λp=>decide (p.2.Number<=p.1.Number)) (some 10) (Faq b (λ_=>some 0) (b.Sources.length:Int) 0) a.rl]
   ·unfold aLt
    cases(rP b.Rests).any λp=>decide (p.2.Number<=p.1.Number)<;>rfl
   ·intro k i x _ g d l;simp only [zD,yB l,zO,yK d,zA,aSy (show i<=9223372036854775806 by omega),yK g,fH l a.rl]
   ·intro k _ _;simp only [zD];rw [qD (by omega),zL]
 rw [C,fault_K];rcases aDg b.Rests with ⟨v,g1,g2⟩|⟨g1,g2⟩
 ·rw [g2,g2];exact⟨v,rfl,rfl,λh=>absurd h g1⟩
 rw [g1,g1];have r:=rs_ok a.rs g2;have s:Fah b.Rests=some 0:=by
  rw [fault_l b.Rests a.rl a.rs];exact g1 (some 0)
 have o: ∀(i:Nat) (x:fG),b.Sources[i]? =some x->SzP (kV b x)/\nV (kV b x)=0/\0<=nN b.Map x.Param:=by
  intro i x hi;have A:=aTz (m i x hi);have hm:=qS (aCl A).1;exact⟨a.mp.ps _ hm,(q.all _ hm).ck,A⟩
 have F:Faq b (λ_=>some 0) (b.Sources.length:Int) 0=gI (aBg b) (some 3) (some 0):=by
  unfold Faq;refine jJ b.Sources (λx=> !(kS b.Map (kV b x) b.Rests).2) (some 3) (some 0) a.sl (λk i x g d=>?_) (λk=>by simp only [zD,yE,zL]);obtain⟨w,z,u⟩:=o i x g;simp only [zD,yB d,zO,yK g,zA,fH d a.sl,from_l m1 a.mp.pl u (aCl u).1 w z r s]
  cases(kS b.Map (kV b x) b.Rests).2<;>rfl
 have G:Fe8 b (λ_=>some 0) 0=gI (aBg b) (some 3) (some 0):=by
  unfold Fe8;refine jJ b.Sources (λx=> !(kS b.Map (kV b x) b.Rests).2) (some 3) (some 0) a.sl (λk i x g d=>?_) (λk=>by simp only [zD,yE,zL]);obtain⟨w,z,u⟩:=o i x g;have t:=aCl u;have f:=aSo a.mp m2 q t.1;rw [show(((nN b.Map x.Param).toNat:Nat):Int)=nN b.Map x.Param by omega]at f;simp only [zD,yB d,zO,yK g,zA,fH d a.sl,par_5 b.Map a.mp.pl,made_5 w z r t.2 f]
 rw [F,G]
 cases hlb:aBg b with
 |true=>exact⟨3,rfl,rfl,λh=>by cases h⟩
 |false=>exact⟨0,rfl,rfl,λ_=>⟨⟨q,m1,m2,r,s,by omega,m⟩,rfl⟩⟩
structure aFb (x:fC):Prop where
 a0:0<=x.At
 a1:x.At<=1099511627776
 n0: -1125899906842624<=x.N
 n1:x.N<=1125899906842624
 m0:0<=x.Mark
 m1:x.Mark<=4
 nm:x.N≠0->2<=x.Mark
structure aUc (s:Series):Prop where
 den:s.Den=1
 n:s.Samples.length<=20000
 all: ∀x∈s.Samples,aFb x
 ord:s.Samples.Pairwise λa b=>a.At<b.At
theorem check_ok {s:Series} (h:aUc s):Fb2 s=some 0:=by
 have j:=h.n;unfold Fb2 Fd0
 repeat (first |rw [zD]|rw [yC]|rw [zA])
 rw [swi,zA,h.den,show(decide ((1:Int)<=1)&&decide ((1:Int)<=1000000))=true from rfl,zD,show(!true)=false from rfl,zL]
 repeat (first |rw [zD]|rw [yC]|rw [zA])
 rw [qD (by omega),zL];have d:Fef s (λ_=>some (-1,0)) (s.Samples.length:Int) 0=some (-1,0):=by
  unfold Fef;refine yP (λi=>(i:Int)) s.Samples.length (by omega) rfl (λk i hi=>?_) (λk=>by simp only [zD,yE,zL]);have b:s.Samples[i]? =some s.Samples[i]:=gE hi;have a:=h.all _ (List.getElem_mem hi);have a0:=a.a0;have a1:=a.a1;have n0:=a.n0;have n1:=a.n1;have m0:=a.m0;have m1:=a.m1;have nm:=a.nm;simp only [zD,yB hi,zO,yK b,zA,swi,nwi,xC,dM];have e:((decide (s.Samples[i].At<0)||decide (1099511627776<s.Samples[i].At))||(decide (s.Samples[i].N< -1125899906842624)||decide (1125899906842624<s.Samples[i].N))||(decide (s.Samples[i].Mark<0)||decide (4<s.Samples[i].Mark)))=false:=by
   simp only [Bool.or_eq_false_iff,decide_eq_false_iff_not];omega
  have f:(decide (s.Samples[i].N≠0)&&decide (s.Samples[i].Mark<=1))=false:=by
   rw [Bool.and_eq_false_iff,decide_eq_false_iff_not,decide_eq_false_iff_not]
   by_cases c:s.Samples[i].N=0
   ·left;simpa using c
   ·right;have:=nm c;omega
  rw [e,zL,f,zL]
  by_cases c:0<i
  ·rw [dT (show(0:Int)<(i:Int)by omega),zO,aFu b (by omega) c,zA];have g:s.Samples[i-1]? =some (s.Samples[i-1]'(by omega)):=gE (by omega);rw [g];have:=(List.pairwise_iff_getElem.1 h.ord) (i-1) i (by omega) hi (by omega);show gB (some (decide (s.Samples[i].At<=(s.Samples[i-1]'(by omega)).At))) _=_;rw [qD (by omega),zA,zL,fH hi (by omega)]
  ·rw [qD (show¬(0:Int)<(i:Int)by omega),zL,zA,zL,fH hi (by omega)]
 rw [d,zA]
theorem stL_lt {p:Param}(c:dW p):(dE p).Pairwise (· < ·):=by
 unfold dE stL;have d:=aGa c;refine List.Pairwise.filter _ (List.Pairwise.map _ (λa b _=>?_) List.pairwise_lt_range);have:(a:Int)*p.Every<(b:Int)*p.Every:=Int.mul_lt_mul_of_pos_right (by omega) (by omega);omega
theorem smp_ok {m:Map}{p:Param}{a:List gU} (j:SzP p) (g:nV p=0) (h:uQ a) {base:Int} (k:0<=base) (n:base<=5000000) {c:Cell} (d:c∈gK p 0):
  aFb (dS m p a base c)/\64*base<=(dS m p a base c).At/\(dS m p a base c).At<64*(base+16):=by
 have f:=qE g;obtain⟨_,_,_,_,_,_,_,_⟩:=aQp f k n d;obtain⟨_,c2,c3⟩:=tY f d;have o:=aQe (R:=eF a) (base:=base) (l:=c.Places) λx q=>⟨c2 x q,tK h _⟩
 obtain⟨v,r,d1,-,d3,d4⟩:=aLh j g (sQ (eF a) base c.Places) (by have:=aDc (eF a) base c.Places;rw [c3]at this;rw [sF];omega);have hd:aOp p (sQ (eF a) base c.Places)=(v,r):=by unfold aOp;rw [d1];rfl
 have t1:=f.tm.t1;have E:64*(c.Index%p.Times)/p.Times<64:=by
  have:c.Index%p.Times<p.Times:=Int.emod_lt_of_pos _ (by omega);exact Int.ediv_lt_of_lt_mul (by omega) (by omega)
 have e:(dS m p a base c).At=64*(base+c.Frame)+64*(c.Index%p.Times)/p.Times:=rfl;have hm:((dS m p a base c).N,(dS m p a base c).Mark)=aEk m p (eF a) base c.Places:=rfl;unfold aEk at hm;rw [hd]at hm;refine⟨?_,by rw [e];omega,by rw [e];omega⟩;have b: -1125899906842624<=(dS m p a base c).N/\(dS m p a base c).N<=1125899906842624/\0<=(dS m p a base c).Mark/\(dS m p a base c).Mark<=4/\((dS m p a base c).N≠0->2<=(dS m p a base c).Mark):=by
  split at hm
  ·simp only [Prod.mk.injEq]at hm;omega
  ·rename_i i;simp only [Bool.or_eq_true,not_or,decide_eq_true_eq]at i;have s:=i.1;split at hm
   ·simp only [Prod.mk.injEq]at hm;omega
   ·simp only [Prod.mk.injEq]at hm;omega
 exact⟨by rw [e];omega,by rw [e];omega,b.1,b.2.1,b.2.2.1,b.2.2.2.1,b.2.2.2.2⟩
theorem sec_ord {m:Map}{p:Param}{q:List gU} (h:pM p) (g:Int):(aJb m p q (gK p 0) g).Pairwise λa b=>a.At<b.At:=by
 unfold aJb;rw [List.pairwise_map,List.pairwise_iff_getElem];intro i j hi r _;show nU p (g*16) (gK p 0)[i]<nU p (g*16) (gK p 0)[j];obtain⟨s,d,a2,a3⟩:=aAn (dE p) (gE hi);obtain⟨f,e,u,n⟩:=aAn (dE p) (gE r);have v:(gK p 0)[i]=Cell.mk 0 (i:Int) s (dI p s ((i%p.Times.toNat:Nat):Int)):=a2;have w:(gK p 0)[j]=Cell.mk 0 (j:Int) f (dI p f ((j%p.Times.toNat:Nat):Int)):=u;rw [v,w];unfold nU;simp only;have t1:=h.tm.t1;have t2:=h.tm.t2;obtain⟨T,x⟩: ∃T:Nat,p.Times=(T:Int):=⟨p.Times.toNat,by omega⟩;rw [x]at d a3 e n t1 t2⊢;rw [Int.toNat_natCast]at d a3 e n;have f1:(64*((i:Int)%(T:Int))/(T:Int))=((64*(i%T)/T:Nat):Int):=by norm_cast
 have f2:(64*((j:Int)%(T:Int))/(T:Int))=((64*(j%T)/T:Nat):Int):=by norm_cast
 rw [f1,f2];have g1:64*(i%T)/T<64:=Nat.div_lt_of_lt_mul (by rw [Nat.mul_comm];exact Nat.mul_lt_mul_of_pos_right a3 (by decide));have o:i/T<=j/T:=Nat.div_le_div_right (by omega)
 by_cases c:i/T=j/T
 ·rw [c]at d;rw [d]at e;obtain rfl:s=f:=by simpa using e
  have hm:i%T<j%T:=by
   have y:=Nat.div_add_mod i T;have G:=Nat.div_add_mod j T;rw [c]at y;omega
  have:64*(i%T)/T+1<=64*(j%T)/T:=by
   rw [<-Nat.add_div_right _ (by omega:0<T)];exact Nat.div_le_div_right (by omega)
  omega
 ·have z:s<f:=by
   have k:=(gS.1 d);have l:=(gS.1 e);obtain⟨C,D⟩:=k;obtain⟨E,F⟩:=l;rw [<-D,<-F];exact(List.pairwise_iff_getElem.1 (stL_lt h.tm)) _ _ C E (by omega)
  generalize 64*(i%T)/T=A at g1⊢;generalize 64*(j%T)/T=B;omega
theorem aVe {m:Map}{p:Param}{e:List gU} (i:SzP p) (f:nV p=0) (h:uQ e) {n0:Int} (n:0<=n0): ∀k:Nat,n0+(k:Int)<=262144->(∀x∈kJ m p e (gK p 0) n0 k,aFb x/\x.At<1024*(n0+(k:Int)))/\(kJ m p e (gK p 0) n0 k).Pairwise λa b=>a.At<b.At
 |0,_=>⟨λx d=>by simp [kJ]at d,List.Pairwise.nil⟩
 |k+1,r=>by
  obtain⟨j,i2⟩:=aVe i f h n k (by omega);have l: ∀x∈aJb m p e (gK p 0) (n0+(k:Int)),aFb x/\1024*(n0+(k:Int))<=x.At/\x.At<1024*(n0+((k+1:Nat):Int)):=by
   intro x d;unfold aJb at d;obtain⟨_,g,rfl⟩:=List.mem_map.1 d;have:=smp_ok (m:=m) i f h (base:=(n0+(k:Int))*16) (by omega) (by omega) g;exact⟨this.1,by omega,by omega⟩
  rw [aAx];refine⟨λx d=>?_,List.pairwise_append.2 ⟨i2,sec_ord (qE f) _,λa o b q=>?_⟩⟩
  ·rcases mA.1 d with d|d
   ·have:=j x d;exact⟨this.1,by omega⟩
   ·have:=l x d;exact⟨this.1,this.2.2⟩
  ·have:=j a o;have:=l b q;omega
theorem ser_ok {m:Map}{p:Param}{d:List gU} (n:SzP p) (o:nV p=0) (h:uQ d) (g:(kS m p d).2=true):aUc (kS m p d).1:=by
 unfold kS at g⊢;split
 ·exact⟨rfl,(by decide),(λx f=>by cases f),List.Pairwise.nil⟩
 rename_i k;rw [if_neg k]at g;split
 ·rename_i c;rw [if_pos c]at g;cases g
 rename_i c;obtain⟨_,_,_,_,i,j,a0,_,_⟩:=ends h k;have r:(aV d:Int)=dK d-dY d+1:=by unfold aV;rw [i,j];omega
 have s:((aV d*(gK p 0).length:Nat):Int)=(aV d:Int)*((gK p 0).length:Int):=Int.natCast_mul _ _;obtain⟨l,i2⟩:=aVe (m:=m) n o h (n0:=dY d) (by rw [i];omega) (aV d) (by rw [r,i,j];omega);refine⟨rfl,?_,λx f=>?_,List.pairwise_append.2 ⟨i2,List.pairwise_singleton _ _,λx f _ t=>?_⟩⟩
 ·show(kJ m p d (gK p 0) (dY d) (aV d)++[_]).length<=_;rw [List.length_append,pY,List.length_singleton];omega
 ·rcases mA.1 f with f|f
  ·exact(l x f).1
  ·rw [mS.1 f];have:0<=dK d/\dK d<=262143:=by rw [j];omega
   exact⟨by show 0<=(dK d+1)*1024;omega,by show(dK d+1)*1024<=_;omega,by show(_:Int)<=0;decide,by show(0:Int)<=_;decide,by show(0:Int)<=0;decide,by show(0:Int)<=4;decide,λe=>absurd rfl e⟩
 ·rw [mS.1 t];have:=(l x f).2;show x.At<(dK d+1)*1024;omega
def inL (x:Line)(v:Int):Bool:=decide (x.From<=v)&&decide (v<=x.To)
def aQc (c:gZ)(v:Int):Nat->Line->Option (Option (Int×Bool)):=λ_ x=>if inL x v=true then some (some (if dC (aAf x v) c.Low c.High=true then(0,false)else(aAf x v,true)))else none
def aRo (c:gZ)(v:Int):Nat->Line->Option (Option (Int×Bool)):=λ_ x=>if (inL x v&& !dC (aAf x v) c.Low c.High)=true then some (some (aAf x v,true))else none
def aMq (c:gZ)(v:Int):Int×Bool:=(eU (aQc c v) (some (0,false)) c.Lines 0).getD (0,false)
theorem aKa (c:gZ) (v:Int):eU (aQc c v) (some (0,false)) c.Lines 0=some (aMq c v):=by
 unfold aMq;rcases bV (aQc c v) c.Lines 0 with ⟨_,_,_,-,a,b⟩|⟨-,b⟩
 ·rw [b];unfold aQc at a;split at a
  ·cases a;rfl
  ·cases a
 ·rw [b];rfl
theorem aPd (c:gZ) (v:Int): ∀(l:List Line) (i:Nat),(l.Pairwise λa b=>a.To<b.From)->eU (aRo c v) (some (0,false)) l i=eU (aQc c v) (some (0,false)) l i
 | [],_,_=>rfl
 |x::l,i,h=>by
  obtain⟨g,j⟩:=List.pairwise_cons.1 h;have e:=aPd c v l (i+1) j;rw [eU,eU];unfold aRo aQc
  by_cases d:inL x v=true
  ·cases c2:dC (aAf x v) c.Low c.High with
   |false=>simp only [d,Bool.not_false,Bool.and_true,if_true,Bool.false_eq_true,if_false]
   |true=>
    simp only [d,Bool.not_true,Bool.and_false,Bool.false_eq_true,if_false,if_true];unfold inL at d;rw [Bool.and_eq_true,decide_eq_true_eq,decide_eq_true_eq]at d;have: ∀(l:List Line) (i:Nat),(∀y∈l,x.To<y.From)->eU (aRo c v) (some (0,false)) l i=some (0,false):=by
     intro l
     induction l with
     |nil=>intro i _;rfl
     |cons y l e=>
      intro i f;rw [eU];have k:=f y (List.mem_cons_self ..);have:aRo c v i y=none:=by
       unfold aRo inL;rw [qD (by omega: ¬y.From<=v)];rfl
      rw [this];exact e (i+1) λz m=>f z (List.mem_cons_of_mem _ m)
    exact this l (i+1) g
  ·have d:inL x v=false:=by simpa using d
   simp only [d,Bool.false_and,Bool.false_eq_true,if_false];exact e
theorem lines_ord {c:gZ} (h:aJp c):c.Lines.Pairwise λa b=>a.To<b.From:=by
 have f: ∀x∈c.Lines,x.From<=x.To:=by
  intro x k;have:=h.lb x k;unfold sW at this;simp only [Bool.or_eq_false_iff,decide_eq_false_iff_not]at this;omega
 have: ∀l:List Line,(∀x∈l,x.From<=x.To)->(∀(j:Nat) (x y:Line),l[j]? =some y->l[j+1]? =some x->y.To<x.From)->l.Pairwise λa b=>a.To<b.From:=by
  intro l
  induction l with
  |nil=>intro _ _;exact List.Pairwise.nil
  |cons x l d=>
   intro g i;have d:=d (λy m=>g y (List.mem_cons_of_mem _ m)) (λj a b n o=>i (j+1) a b (by simpa using n) (by simpa using o));refine List.Pairwise.cons (λz e=>?_) d
   cases l with
   |nil=>cases e
   |cons y l=>
    have:=i 0 y x rfl rfl;rcases List.mem_cons.1 e with rfl|e
    ·exact this
    ·have a:=(List.pairwise_cons.1 d).1 z e;have b:=g y (List.mem_cons_of_mem _ (List.mem_cons_self ..));omega
 exact this c.Lines f h.ord
theorem apply_s {c:gZ}(h:aJp c)(v:Int):Fb5 c v=some (aMq c v):=by
 have a:c.Lines.length<=9223372036854775807:=by have:=h.n2;omega
 rw [<-aKa,<-aPd c v c.Lines 0 (lines_ord h)];unfold Fb5 Fg3
 repeat (first |rw [zD]|rw [yC]|rw [zA])
 refine xG c.Lines (aRo c v) _ a (λk _ x d b=>?_) (λk=>by simp only [zD,yE,zL]);simp only [zD,yC,yB b,zO,yK d,zA,fH b a,swi,Fax];unfold aRo;show gI (inL x v) (gI (decide (c.Low<=aAf x v)&&decide (aAf x v<=c.High)) (some (aAf x v,true)) _) _=_;have e:(decide (c.Low<=aAf x v)&&decide (aAf x v<=c.High))= !dC (aAf x v) c.Low c.High:=by
  unfold dC;rw [<-nwi,Bool.not_not]
 rw [e]
 cases inL x v<;>cases dC (aAf x v) c.Low c.High<;>rfl
def qR (c:gZ)(x:fC):fC:=if 2<=x.Mark then(if (aMq c x.N).2=true then fC.mk x.At (aMq c x.N).1 x.Mark else fC.mk x.At 0 1)else x
def aHf (s:Series)(c:gZ):Series:=Series.mk c.Den (s.Samples.map (qR c))
theorem clone_eq (l:List fC)(h:l.length<=20000):Fbh l=some l:=by
 unfold Fbh nilO
 cases l with
 |nil=>rfl
 |cons _ l=>
  simp only;rw [zL,aG (by rw [List.length_nil];omega) (by decide),zA];rfl
theorem cal_eq {c:gZ} (j:aEp c=0) (e:c.Lines.length<=9223372036854775807) {s:Series} (h:aUc s):Fbv s c=some (aHf s c,0):=by
 have m:=h.n;have f:=cal_ok j;unfold Fbv;rw [check_ok h,zA,zD,show decide ((0:Int)≠0)=false from rfl,zL,cal_s c e,aGb,j,zA,zD,show decide ((0:Int)≠0)=false from rfl,zL,zD,h.den,show decide ((1:Int)≠1)=false from rfl,zL,clone_eq _ m,zA,zD];have o:Ffc c (s.Samples.length:Int) (0,s.Samples)=some (s.Samples.map (qR c)):=by
  unfold Ffc;refine yP (λi=>((i:Int),(s.Samples.take i).map (qR c)++s.Samples.drop i)) s.Samples.length (by omega) rfl (λk i hi=>?_) (λk=>?_)
  ·have p:s.Samples[i]? =some s.Samples[i]:=gE hi;have g:s.Samples.drop i=s.Samples[i]::s.Samples.drop (i+1):=List.drop_eq_getElem_cons hi;have a:((s.Samples.take i).map (qR c)).length=i:=by rw [List.length_map,List.length_take];omega
   have q:at' ((s.Samples.take i).map (qR c)++s.Samples[i]::s.Samples.drop (i+1)) (i:Int)=some s.Samples[i]:=at_mid _ _ _ i a;have b: ∀y,set' ((s.Samples.take i).map (qR c)++s.Samples[i]::s.Samples.drop (i+1)) (i:Int) y=some ((s.Samples.take i).map (qR c)++y::s.Samples.drop (i+1)):=λy=>set_at _ _ _ _ i a
   have d:(s.Samples.take (i+1)).map (qR c)++s.Samples.drop (i+1)=(s.Samples.take i).map (qR c)++qR c s.Samples[i]::s.Samples.drop (i+1):=by
    rw [bU p,List.map_append,List.map_singleton,List.append_assoc];rfl
   simp only [zD,yB hi,zO,g,q,b,zA,apply_s f,fH hi (by omega),d];unfold qR
   by_cases l:2<=s.Samples[i].Mark
   ·rw [qD (by omega: ¬s.Samples[i].Mark<2),zL,if_pos l]
    cases c2:(aMq c s.Samples[i].N).2 with
    |true=>rfl
    |false=>rfl
   ·rw [dT (by omega:s.Samples[i].Mark<2),zO,if_neg l,zA]
  ·simp only [zD,yE,zL,List.take_length,List.drop_length,List.append_nil]
 rw [o,zA];rfl
structure uV (b:Book)(rs:List gU):Prop where
 ok:uQ rs
 nil:rs=[]↔b.Rests=[]
 f:dY rs=dY b.Rests
 l:dK rs=dK b.Rests
theorem aKf {b:Book}(h:uQ b.Rests):uV b b.Rests:=⟨h,Iff.rfl,rfl,rfl⟩
theorem aQg {b:Book}{a:List gU} (h:uV b a) (m:Map) (p:Param):(kS m p a).2=(kS m p b.Rests).2:=by
 have d:aV a=aV b.Rests:=by unfold aV;rw [h.f,h.l]
 unfold kS;by_cases c:a=[];rw [if_pos c,if_pos (h.nil.1 c)];rw [if_neg c,if_neg (λe=>c (h.nil.2 e)),d];split<;>rfl
theorem aTn {b:Book} (h:uQ b.Rests):Fa4 b=some (if b.Rests=[]then(0,0,false)else(dY b.Rests,dK b.Rests,true)):=by
 unfold Fa4
 repeat (first |rw [zD]|rw [yC]|rw [zA])
 rw [yN]
 by_cases c:b.Rests=[]
 ·rw [if_pos c,if_pos (by rw [c];rfl)]
 ·have a:b.Rests.length≠0:=λe=>c (List.eq_nil_of_length_eq_zero e)
  obtain⟨_,_,d,f,g,i,a0,_,_⟩:=ends h c;rw [if_neg c,if_neg (by omega),d,zA,nM a0 (by omega) (by decide),zA]
  repeat (first |rw [zD]|rw [yC]|rw [zA])
  rw [f,zA,nM (by omega) (by omega) (by decide),zA,g,i]
def trM (b:Book)(a:List gU)(x:fG):Track:=Track.mk x.Track (match x.Meaning with
 | [c]=>aHf (kS b.Map (kV b x) a).1 c
 |_=>(kS b.Map (kV b x) a).1) x.Long
structure SrcOk (b:Book)(x:fG):Prop where
 par:0<=nN b.Map x.Param
 sz:SzP (kV b x)
 ck:nV (kV b x)=0
 m1:x.Meaning.length<=1
 mc: ∀c∈x.Meaning,aEp c=0/\c.Lines.length<=9223372036854775807
 fit:(kS b.Map (kV b x) b.Rests).2=true
theorem src_ok {b:Book} (k:SzB b) (m:aDq b) (j:aBg b=false) {i:Nat}{x:fG} (hi:b.Sources[i]? =some x):SrcOk b x:=by
 have h:=m.src i x hi;have hm:=qS hi;have n:=aTz h;have a:=qS (aCl n).1;have o:=k.ss x hm;have f:(kS b.Map (kV b x) b.Rests).2=true:=by
  unfold aBg at j;rw [List.any_eq_false]at j;have:=j x hm;simpa using this
 unfold aEc at h;split at h
 ·cases h
 split at h
 ·cases h
 split at h
 ·cases h
 split at h
 ·cases h
 rename_i c2;split at h
 ·rename_i c;exact absurd h c
 rename_i c5;refine⟨n,k.mp.ps _ a,(m.mp.all _ a).ck,by omega,λc g=>⟨?_,o.ms c g⟩,f⟩;unfold aIh at c5;rcases hmm:x.Meaning with _|⟨_,_|⟨_,_⟩⟩
 ·rw [hmm]at g;cases g
 ·rw [hmm]at g c5;rw [mS.1 g];simpa using c5
 ·rw [hmm]at c2;simp at c2
theorem made_l {b:Book}{d:List gU}{x:fG} (v:b.Map.Params.length<=9223372036854775807) (G:uQ b.Rests) (h:uV b d) (o:SrcOk b x) {f l:Int}{q:Bool} (r:(if b.Rests=[]then((0:Int),(0:Int),false)else(dY b.Rests,dK b.Rests,true))=(f,l,q)):
  Fcx b x d f l=some (trM b d x):=by
 have j:(kS b.Map (kV b x) d).2=true:=by rw [aQg h];exact o.fit
 have w:=ser_ok (m:=b.Map) o.sz o.ck h.ok j;obtain⟨p,H,y⟩:=parOf b v x;obtain rfl:p=kV b x:=by
  have:=y o.par;rw [(aCl o.par).1]at this;simpa using this.symm
 unfold Fcx;rw [H,zA];simp only;rw [aTn G,r,zA];simp only [zD];rw [Int.max_self,Int.min_self];have s:=one_ok o.sz o.ck;have t:(gB (gB (gI q (some (decide (f<=l))) (some false)) λA=>gI A (gB (Fbu b.Map (kV b x) d f l (decide (l=l))) λu=>some (u.Den,u.Samples)) (some (1,[])))
   λg=>some g)=some ((kS b.Map (kV b x) d).1.Den,(kS b.Map (kV b x) d).1.Samples):=by
  by_cases c:b.Rests=[]
  ·rw [if_pos c]at r
   cases r
   have:d=[]:=h.nil.2 c;subst this;rfl
  ·have E:d≠[]:=λe=>c (h.nil.1 e)
   rw [if_neg c]at r
   cases r
   obtain⟨a,_,_,_,B,C,a0,_,_⟩:=ends h.ok E;have P:(aV d:Int)=dK d-dY d+1:=by unfold aV;rw [B,C];omega
   rw [<-h.f,<-h.l,zO,zA,dT (by rw [B,C];omega),zO,dT rfl];unfold kS at j⊢;rw [if_neg E]at j⊢;split at j
   ·cases j
   rename_i J;rw [if_neg J];have K:((aV d*(gK (kV b x) 0).length:Nat):Int)=(aV d:Int)*((gK (kV b x) 0).length:Int):=Int.natCast_mul _ _;have L:0<=dK d/\dK d<=262143:=by rw [C];omega
   unfold Fbu;rw [zD,s,zA];simp only [zD];rw [aKm o.sz o.ck h.ok (aV d) (by rw [B];omega) (by omega) L.2 (by omega),zA,zO,wrap_i64 (n:=dK d+1) (by omega) (by omega),wrap_i64 (n:=(dK d+1)*1024) (by omega) (by omega),
    aG (by rw [pY,List.length_singleton];omega) (by decide)]
   rfl
 have D: ∀a:Option (Int×List fC),(gB a λg=>some g)=a:=λa=>by cases a<;>rfl
 rw [D]at t;rw [t,zA];simp only;have hm:Fdr x (x.Meaning.length:Int) (0,(kS b.Map (kV b x) d).1.Den,(kS b.Map (kV b x) d).1.Samples)=some ((trM b d x).Series.Den,(trM b d x).Series.Samples):=by
  unfold Fdr trM;rcases hmm:x.Meaning with _|⟨c,_|⟨e,l⟩⟩
  ·refine yP (λ_=>(0,(kS b.Map (kV b x) d).1.Den,(kS b.Map (kV b x) d).1.Samples)) 0 (by decide) rfl (λk i hi=>by omega) (λk=>rfl)
  ·have F:=o.mc c (by rw [hmm];exact List.mem_cons_self ..);refine yP (λi=>match i with
    |0=>(0,(kS b.Map (kV b x) d).1.Den,(kS b.Map (kV b x) d).1.Samples)
    |_=>(1,(aHf (kS b.Map (kV b x) d).1 c).Den,(aHf (kS b.Map (kV b x) d).1 c).Samples)) 1 (by decide) rfl (λk i hi=>?_) (λk=>rfl)
   obtain rfl:i=0:=by omega
   simp only [zD];rw [show decide ((0:Int)<(([c]:List gZ).length:Int))=true from rfl,zO,show at' [c] 0=some c from rfl,zA];have:Series.mk (kS b.Map (kV b x) d).1.Den (kS b.Map (kV b x) d).1.Samples=(kS b.Map (kV b x) d).1:=rfl;rw [this,cal_eq F.1 F.2 w,zA];rfl
  ·have:=o.m1;rw [hmm]at this;simp at this
 rw [hm,zA];rfl
def aI (b:Book)(a:List gU):List Track:=b.Sources.map (trM b a)
theorem all_l {b:Book}{rs:List gU} (e:SzB b) (c:aDq b) (g:aBg b=false) (h:uV b rs):Fbj b rs=some (aI b rs):=by
 have j:=c.sn;unfold Fbj;rw [aTn c.rs,zA];obtain⟨f,l,q,a⟩: ∃f l q,(if b.Rests=[]then((0:Int),(0:Int),false)else(dY b.Rests,dK b.Rests,true))=(f,l,q):=⟨_,_,_,rfl⟩;rw [a];simp only
 repeat (first |rw [zD]|rw [yC]|rw [zA])
 unfold Fhe;rw [yP (r:=some (aI b rs)) (λi=>((b.Sources.take i).map (trM b rs),(i:Int))) b.Sources.length (by omega)]
 ·rfl
 ·rfl
 ·intro k i hi;have d:b.Sources[i]? =some b.Sources[i]:=gE hi;simp only [zD,yB hi,zO,yK d,zA,made_l e.mp.pl c.rs h (src_ok e c g d) a];rw [aG (by rw [List.length_map,List.length_take,List.length_singleton];omega) (by decide),zA,fH hi (by omega),bU d,List.map_append,List.map_singleton]
 ·intro k;simp only [zD,yE,zL,List.take_length];rfl
def aJg (a:List gW):List (gW×Bool):=a.foldl (λm w=>pU m w true) []
theorem set_l (a:List gW) (h:a.length<=9223372036854775807):Fb4 a=some (aJg a):=by
 unfold Fb4 Fgs
 repeat (first |rw [zD]|rw [yC]|rw [zA])
 rw [yP (r:=some (aJg a)) (λi=>((i:Int),aJg (a.take i))) a.length h]
 ·rfl
 ·rfl
 ·intro k i hi;have b:a[i]? =some a[i]:=gE hi;simp only [zD,yB hi,zO,yK b,zA,fH hi h];rw [bU b];unfold aJg;rw [foldl_snoc]
 ·intro k;simp only [zD,yE,zL,List.take_length]
def uC (p:Nat->Bool)(A B:Arr 64 Int):Arr 64 Int:=⟨(List.range 64).map λk=>if p k=true then A.l.getD k 0 else B.l.getD k 0,by rw [List.length_map,List.length_range]⟩
theorem aNo {A B:Arr 64 Int} (h: ∀k,k<64->A.l.getD k 0=B.l.getD k 0):A=B:=by
 have:A.l=B.l:=by
  apply List.ext_getElem?;intro k
  by_cases c:k<64
  ·have:=h k c;rw [List.getD_eq_getElem?_getD,List.getD_eq_getElem?_getD,gE (by rw [A.h];exact c),gE (by rw [B.h];exact c)]at this;rw [gE (by rw [A.h];exact c),gE (by rw [B.h];exact c)];exact congrArg some this
  ·rw [List.getElem?_eq_none (by rw [A.h];omega),List.getElem?_eq_none (by rw [B.h];omega)]
 cases A;cases B;cases this;rfl
theorem vZ (p:Nat->Bool)(A B:Arr 64 Int){k:Nat}(a:k<64):(uC p A B).l.getD k 0=if p k=true then A.l.getD k 0 else B.l.getD k 0:=by
 unfold uC;rw [List.getD_eq_getElem?_getD,List.getElem?_map,List.getElem?_range a];rfl
theorem set_at' (A:Arr 64 Int){i k:Nat}(a:k<64)(v:Int):(Arr.set A (i:Int) v).l.getD k 0=if i=k then v else A.l.getD k 0:=by
 show(A.l.set (i:Int).toNat v).getD k 0=_;rw [Int.toNat_natCast,List.getD_eq_getElem?_getD,List.getElem?_set];by_cases c:i=k;rw [if_pos c,if_pos c,if_pos (by rw [A.h];omega)];rfl;rw [if_neg c,if_neg c,List.getD_eq_getElem?_getD]
def aQ (s:List (gW×Bool))(n:Int)(k:Nat):Bool:=aX s (gW.mk n (k:Int)) false
def jL:Arr 64 Int:=Arr.rep 64 0
theorem aTl {k:Nat}(a:k<64):jL.l.getD k 0=0:=by
 show(List.replicate 64 (0:Int)).getD k 0=0;rw [List.getD_eq_getElem?_getD,List.getElem?_replicate];split<;>rfl
theorem aFt (A:Arr 64 Int){i:Nat}(hi:i<64):at' A.l (i:Int)=some (A.l.getD i 0):=by
 rw [vU,List.getD_eq_getElem?_getD,gE (by rw [A.h];exact hi)];rfl
def aH (s:List (gW×Bool))(r:gU):gU:=gU.mk r.Number (uC (aQ s r.Number) r.Frame jL) (uC (aQ s r.Number) r.States jL) false 0 false
theorem words_l (s:List (gW×Bool)) (r:gU):Ffa s r (0,jL,jL)=some (uC (aQ s r.Number) r.Frame jL,uC (aQ s r.Number) r.States jL):=by
 unfold Ffa;refine yP (λi=>((i:Int),uC (λk=>decide (k<i)&&aQ s r.Number k) r.Frame jL,uC (λk=>decide (k<i)&&aQ s r.Number k) r.States jL)) 64 (by decide) ?_ (λk i hi=>?_) (λk=>?_)
 ·have e: ∀A:Arr 64 Int,jL=uC (λk=>decide (k<0)&&aQ s r.Number k) A jL:=λA=>aNo λk a=>by rw [vZ _ _ _ a,qD (by omega)];rfl
  rw [<-e,<-e];rfl
 ·have step: ∀A:Arr 64 Int,uC (λk=>decide (k<i+1)&&aQ s r.Number k) A jL=if aQ s r.Number i=true then Arr.set (uC (λk=>decide (k<i)&&aQ s r.Number k) A jL) (i:Int) (A.l.getD i 0)else uC (λk=>decide (k<i)&&aQ s r.Number k) A jL:=by
   intro A;refine aNo λk a=>?_
   rw [vZ _ _ _ a]
   by_cases c:aQ s r.Number i=true
   ·rw [if_pos c,set_at' _ a,vZ _ _ _ a]
    by_cases e:i=k
    ·subst e;rw [if_pos rfl,dT (by omega),Bool.true_and,if_pos c]
    ·rw [if_neg e,show decide (k<i+1)=decide (k<i)from decide_eq_decide.2 (by omega)]
   ·rw [if_neg c,vZ _ _ _ a]
    by_cases e:i=k
    ·subst e;have c:aQ s r.Number i=false:=by simpa using c
     rw [c,Bool.and_false,Bool.and_false]
    ·rw [show decide (k<i+1)=decide (k<i)from decide_eq_decide.2 (by omega)]
  simp only [zD];rw [dT (by omega:(i:Int)<64),zO,aFt r.States hi,zA,aFt r.Frame hi,zA,aFt _ hi,zA,aFt _ hi,zA,fH (n:=64) hi (by decide),step,step];show gB (gI (aQ s r.Number i) _ _) _=_
  cases aQ s r.Number i<;>rfl
 ·have e: ∀A:Arr 64 Int,uC (λk=>decide (k<64)&&aQ s r.Number k) A jL=uC (aQ s r.Number) A jL:=λA=>aNo λk a=>by rw [vZ _ _ _ a,vZ _ _ _ a,dT a,Bool.true_and]
  show some (uC (λk=>decide (k<64)&&aQ s r.Number k) r.Frame jL,uC (λk=>decide (k<64)&&aQ s r.Number k) r.States jL)=_;rw [e,e]
theorem only_l (a:List gU) (s:List (gW×Bool)) (h:a.length<=5000):Fbq a s=some (a.map (aH s)):=by
 unfold Fbq Fix
 repeat (first |rw [zD]|rw [yC]|rw [zA])
 rw [yP (r:=some (a.map (aH s))) (λi=>((a.take i).map (aH s),(i:Int))) a.length (by omega)]
 ·rfl
 ·rfl
 ·intro k i hi;have b:a[i]? =some a[i]:=gE hi;have c:=words_l s a[i];unfold jL at c;simp only [zD,yB hi,zO,yK b,zA,c];rw [aG (by rw [List.length_map,List.length_take,List.length_singleton];omega) (by decide),zA,fH hi (by omega),bU b,List.map_append,List.map_singleton];rfl
 ·intro k;simp only [zD,yE,zL,List.take_length]
theorem aAm {b:Book} (e:uQ b.Rests) (f:gU->gU) (d: ∀r,(f r).Number=r.Number) (g: ∀r,pO r->pO (f r)):uV b (b.Rests.map f):=by
 refine⟨⟨by rw [List.length_map];exact e.n,?_,?_⟩,by rw [List.map_eq_nil_iff],?_,?_⟩
 ·intro r i;obtain⟨q,j,rfl⟩:=List.mem_map.1 i;have:=e.good q j;rw [d];exact⟨g q this.1,this.2⟩
 ·unfold Srt;rw [List.pairwise_map];exact List.Pairwise.imp (λ {_ _} h=>by rw [d,d];exact h) e.srt
 ·unfold dY;rw [List.head?_map]
  cases b.Rests.head? with
  |none=>rfl
  |some r=>show(f r).Number/16=r.Number/16;rw [d]
 ·unfold dK;rw [List.getLast?_map]
  cases b.Rests.getLast? with
  |none=>rfl
  |some r=>show(f r).Number/16=r.Number/16;rw [d]
theorem aPn (p:Nat->Bool) {A:Arr 64 Int}{m:Int} (h: ∀x∈A.l,0<=x/\x<=m) (hm:0<=m): ∀x∈(uC p A jL).l,0<=x/\x<=m:=by
 intro x c;unfold uC at c;obtain⟨k,b,rfl⟩:=List.mem_map.1 c;have b:=List.mem_range.1 b;split;have a:k<A.l.length:=by rw [A.h];exact b
 rw [List.getD_eq_getElem?_getD,gE a];exact h _ (List.getElem_mem a);rw [aTl b];omega
theorem vN (s:List (gW×Bool))(r:gU)(h:pO r):pO (aH s r):=
 ⟨λx a=>by have:=aPn (aQ s r.Number) (A:=r.Frame) (m:=65535) (λx a=>by have:=h.fr x a;omega) (by decide) x a;omega,aPn _ h.st (by decide)⟩
theorem aTa {l:List gU} (i:Srt l) (f:gU->gU) (b: ∀r,(f r).Number=r.Number) (n:Int):eF (l.map f) n=if ∃r∈l,r.Number=n then f (eF l n)else qO:=by
 have g:Srt (l.map f):=by
  unfold Srt;rw [List.pairwise_map];exact List.Pairwise.imp (λ {_ c} h=>by rw [b,b];exact h) i
 by_cases c: ∃r∈l,r.Number=n
 ·rw [if_pos c];obtain⟨r,d,e⟩:=c;rw [jM i d e];exact jM g (List.mem_map_of_mem d) (by rw [b];exact e)
 ·rw [if_neg c];refine nH λr d e=>?_
  obtain⟨q,j,rfl⟩:=List.mem_map.1 d;exact c ⟨q,j,by rw [<-b];exact e⟩
def aPk (w:gW):Bool:=dC w.Number 0 4194303||dC w.Word 0 63
def aLi (a:List gW):Int:=if 320000<a.length then 3 else if a.any aPk=true then 9 else 0
theorem wf_l (a:List gW) (h:a.length<=9223372036854775807):Fc4 a=some (aLi a):=by
 unfold Fc4 aLi
 repeat (first |rw [zD]|rw [yC]|rw [zA])
 rw [yN]
 by_cases c:320000<a.length
 ·rw [if_pos c,if_pos (by omega)]
 rw [if_neg c,if_neg (by omega)];unfold Fh7;rw [jJ a aPk (some 9) (some 0) h]
 ·cases a.any aPk<;>rfl
 ·intro k _ w d b;simp only [zD,yB b,zO,yK d,zA,fH b h,Ffi,fwi,nwi,xC];show gB (gI (aPk w) (some 9) (some 0)) _=_
  cases aPk w<;>rfl
 ·intro k;simp only [zD,yE,zL]
theorem aSu:Fbe=some true:=by decide+kernel
def aSc (x:Part):Prop:=i64 x.Frame/\i64 x.Word/\i64 x.Low/\i64 x.Bits
def aFw (x:Param):Prop:=okS x.Name/\i64 x.Kind/\okL (λx=>aSc x) x.Parts/\i64 x.First/\i64 x.Every/\i64 x.Times/\i64 x.Step/\okL (λx=>okS x) x.Names
def okMap (x:Map):Prop:=i64 x.Version/\okL (λx=>aFw x) x.Params
def aSn (x:Line):Prop:=i64 x.From/\i64 x.To/\i64 x.A/\i64 x.B
def uG (x:gZ):Prop:=i64 x.Den/\okL (λx=>aSn x) x.Lines/\i64 x.Low/\i64 x.High
def aEr (x:fG):Prop:=okS x.Track/\okS x.Param/\okL (λx=>uG x) x.Meaning/\i64 x.Long
def aGm (x:gU):Prop:=i64 x.Number/\(∀y∈x.Frame.l,(Lit.int .u16 y).wf=true)/\(∀y∈x.States.l,i64 y)/\True/\i64 x.Copies/\True
def aSz (x:Book):Prop:=okMap x.Map/\okL (λx=>aEr x) x.Sources/\okL (λx=>aGm x) x.Rests
def aIl (x:gW):Prop:=i64 x.Number/\i64 x.Word
end Go.Lf
