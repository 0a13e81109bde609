/- Laws that the claim stands on; no condition beyond those stated. -/
import Derived.Test.YtbjofgmdhbiekaaGreatDoorBKb
namespace Go.Lf
open Go.RowKit Go.OB Go.Fr1
theorem aQx {a:Type}{q:a->Bool}: ∀{l:List a}{i:Nat}{x:a},i<(l.takeWhile q).length->l[i]? =some x->q x=true
 | [],i,x,h,_=>by simp at h
 |z::l,i,x,h,b=>by
  rw [List.takeWhile_cons]at h
  by_cases c:q z=true
  ·rw [if_pos c]at h
   cases i with
   |zero=>simp at b;rw [<-b];exact c
   |succ i=>exact aQx (l:=l) (by simpa using h) (by simpa using b)
  ·rw [if_neg c]at h;simp at h
theorem aOy {b:Type}{q:b->Bool}: ∀{l:List b}{x:b},l[(l.takeWhile q).length]? =some x->q x=false
 | [],x,a=>by simp at a
 |z::l,x,a=>by
  rw [List.takeWhile_cons]at a
  by_cases c:q z=true
  ·rw [if_pos c]at a;exact aOy (l:=l) (by simpa using a)
  ·rw [if_neg c]at a;simp at a;rw [<-a];simpa using c
theorem aQg {a:Type}(q:a->Bool)(l:List a):(l.takeWhile q).length<=l.length:=(List.takeWhile_sublist _).length_le
theorem aBx {a:Type}(q:a->Bool): ∀l:List a,l.take (l.takeWhile q).length=l.takeWhile q/\l.drop (l.takeWhile q).length=l.dropWhile q
 | []=>⟨rfl,rfl⟩
 |z::l=>by
  have b:=aBx q l;rw [List.takeWhile_cons,List.dropWhile_cons]
  by_cases c:q z=true
  ·rw [if_pos c,if_pos c];exact⟨by rw [List.length_cons,List.take_succ_cons,b.1],by rw [List.length_cons,List.drop_succ_cons,b.2]⟩
  ·rw [if_neg c,if_neg c];exact⟨rfl,rfl⟩
theorem aXb {a:Type}{q:a->Bool}: ∀{l:List a}{x:a},x∈l->q x=false->x∈l.dropWhile q
 |z::l,x,h,b=>by
  rw [List.dropWhile_cons]
  by_cases c:q z=true
  ·rw [if_pos c];rcases List.mem_cons.1 h with rfl|h
   ·rw [b]at c;cases c
   ·exact aXb h b
  ·rw [if_neg c];exact h
def Srt (l:List gW):Prop:=l.Pairwise λa b=>a.Number<b.Number
theorem srt_of: ∀{l:List gW},aRe l=false->Srt l
 | [],_=>List.Pairwise.nil
 | [x],_=>List.pairwise_singleton _ _
 |x::y::l,h=>by
  have b:(decide (y.Number<=x.Number)||aRe (y::l))=false:=h;rw [Bool.or_eq_false_iff,decide_eq_false_iff_not]at b;have c:Srt (y::l):=srt_of b.2;refine List.Pairwise.cons (λz a=>?_) c;rcases List.mem_cons.1 a with rfl|a
  ·omega
  ·have:=(List.pairwise_cons.1 c).1 z a;omega
theorem aWr {q:gW->Bool}: ∀{l:List gW}{x:gW},Srt l->x∈l->q x=true->(∀a b:gW,a.Number<b.Number->q b=true->q a=true)->x∈l.takeWhile q
 |z::l,x,d,h,c,hd=>by
  obtain⟨h1,e⟩:=List.pairwise_cons.1 d;rw [List.takeWhile_cons];rcases List.mem_cons.1 h with rfl|h
  ·rw [if_pos c];exact List.mem_cons_self ..
  ·rw [if_pos (hd z x (h1 x h) c)];exact List.mem_cons_of_mem _ (aWr e h c hd)
theorem uN {n:Int}: ∀{l:List gW}{r:gW},Srt l->r∈l->r.Number=n->kP l n=r
 |z::l,r,b,h,a=>by
  obtain⟨h1,c⟩:=List.pairwise_cons.1 b;unfold kP;rw [List.find?_cons];rcases List.mem_cons.1 h with rfl|h
  ·rw [dT a];rfl
  ·have:=h1 r h;rw [qD (by omega: ¬z.Number=n)];exact uN c h a
theorem wG {l:List gW}{n:Int}(h: ∀r∈l,r.Number≠n):kP l n=vF:=by
 unfold kP;rw [List.find?_eq_none.2 (λr a=>by simpa using h r a)];rfl
def aHj (l:List gW)(b e:Int):List gW:=(l.dropWhile λr=>decide (r.Number<b)).takeWhile λr=>decide (r.Number<e)
theorem near_eq (l:List gW) (b e:Int) (m:l.length<=9223372036854775807):Fcw l b e=some (aHj l b e):=by
 unfold Fcw;have s:=aQg (λr:gW=>decide (r.Number<b)) l;have hd:=(aBx (λr:gW=>decide (r.Number<b)) l).2;have o: ∀a,(l.takeWhile λr:gW=>decide (r.Number<b)).length=a->Fg5 l b 0=some (a:Int):=by
  intro a h;unfold Fg5;refine xE (λi=>(i:Int)) a (by omega) rfl (λk i hi=>?_) (λk=>?_)
  ·have f:i<l.length:=by omega
   have d:l[i]? =some l[i]:=gE f;have g:decide (l[i].Number<b)=true:=aQx (q:=λr:gW=>decide (r.Number<b)) (by rw [h];exact hi) d;simp only [zK,yH f,zV,yU d,zC,fO f m,g]
  ·by_cases c:a<l.length
   ·have d:l[a]? =some l[a]:=gE c;have g:decide (l[a].Number<b)=false:=aOy (q:=λr:gW=>decide (r.Number<b)) (by rw [h];exact d);simp only [zK,yH c,zV,yU d,zC,g,zT]
   ·have:a=l.length:=by omega
    simp only [zK,this,yK,zT,zC]
 generalize hag:(l.takeWhile λr:gW=>decide (r.Number<b)).length=a at *
 have p: ∀n,((l.drop a).takeWhile λr:gW=>decide (r.Number<e)).length=n->Fem l e (a:Int)=some ((a+n:Nat):Int):=by
  intro n h;have j:=aQg (λr:gW=>decide (r.Number<e)) (l.drop a);rw [h,List.length_drop]at j;unfold Fem;refine xE (λi=>((a+i:Nat):Int)) n (by omega) rfl (λk i hi=>?_) (λk=>?_)
  ·have f:a+i<l.length:=by omega
   have d:l[a+i]? =some l[a+i]:=gE f;have g:decide (l[a+i].Number<e)=true:=aQx (q:=λr:gW=>decide (r.Number<e)) (by rw [h];exact hi) (by rw [List.getElem?_drop];exact d);simp only [zK,yH f,zV,yU d,zC,fO f m,g];rfl
  ·by_cases c:a+n<l.length
   ·have d:l[a+n]? =some l[a+n]:=gE c;have g:decide (l[a+n].Number<e)=false:=aOy (q:=λr:gW=>decide (r.Number<e)) (l:=l.drop a) (by rw [h,List.getElem?_drop];exact d);simp only [zK,yH c,zV,yU d,zC,g,zT]
   ·have:a+n=l.length:=by omega
    simp only [zK,this,yK,zT,zC]
 rw [o a rfl,zC,p _ rfl,zC];have j:=aQg (λr:gW=>decide (r.Number<e)) (l.drop a);rw [List.length_drop]at j;have:sub' l (a:Int) ((a+((l.drop a).takeWhile λr:gW=>decide (r.Number<e)).length:Nat):Int)=some (aHj l b e):=by
  unfold sub';rw [if_pos (by omega)];unfold aHj;rw [<-hd]
  congr 1
  rw [Int.toNat_natCast,<-(aBx (λr:gW=>decide (r.Number<e)) (l.drop a)).1]
  congr 1
  rw [(aBx (λr:gW=>decide (r.Number<e)) (l.drop a)).1];omega
 rw [this,zC]
theorem aTa {l:List gW}{b e:Int}{r:gW}(h:r∈aHj l b e):r∈l:=(List.dropWhile_sublist _).mem ((List.takeWhile_sublist _).mem h)
theorem near_at {l:List gW} (i:Srt l) {b e n:Int} (h1:b<=n) (m:n<e):kP (aHj l b e) n=kP l n:=by
 have g:Srt (l.dropWhile λr=>decide (r.Number<b)):=List.Pairwise.sublist (List.dropWhile_sublist _) i;have h:Srt (aHj l b e):=List.Pairwise.sublist (List.takeWhile_sublist _) g;by_cases c: ∃r∈l,r.Number=n;obtain⟨r,d,f⟩:=c;rw [uN i d f];refine uN h ?_ f;refine aWr g (aXb d (qD (by omega))) (dT (by omega)) (λ_ _ _ k=>?_);rw [decide_eq_true_eq]at k⊢;omega;rw [wG (λr d f=>c ⟨r,aTa d,f⟩),wG (λr d f=>c ⟨r,d,f⟩)]
def jR (g:Int)(l:List gW)(A:Arr 16 gW):Arr 16 gW:=l.foldl (λA r=>if r.Number/16=g then Arr.set A (r.Number%16) r else A) A
theorem aKk {g:Int}{f:Nat}: ∀{l:List gW}{A:Arr 16 gW},(∀r∈l,¬(r.Number/16=g/\(r.Number%16).toNat=f))->(jR g l A).l[f]? =A.l[f]?
 | [],A,_=>rfl
 |y::l,A,h=>by
  have h1:=h y (List.mem_cons_self ..);unfold jR;rw [List.foldl_cons];have a:=aKk (g:=g) (f:=f) (l:=l) (A:=if y.Number/16=g then Arr.set A (y.Number%16) y else A) (λr b=>h r (List.mem_cons_of_mem _ b));refine a.trans ?_
  by_cases c:y.Number/16=g
  ·rw [if_pos c];show(A.l.set (y.Number%16).toNat y)[f]? =_;rw [List.getElem?_set_ne (λe=>h1 ⟨c,e⟩)]
  ·rw [if_neg c]
theorem aYk {g:Int}: ∀{l:List gW}{A:Arr 16 gW}{r:gW},Srt l->r∈l->0<=r.Number->r.Number/16=g->(jR g l A).l[(r.Number%16).toNat]? =some r
 |y::l,A,r,b,h,c,a=>by
  obtain⟨h1,d⟩:=List.pairwise_cons.1 b;unfold jR;rw [List.foldl_cons];rcases List.mem_cons.1 h with rfl|h
  ·rw [if_pos a];refine(aKk (g:=g) (λx e _=>?_)).trans ?_
   ·have:=h1 x e;omega
   ·show(A.l.set (r.Number%16).toNat r)[(r.Number%16).toNat]? =_;rw [List.getElem?_set_self];rw [A.h];omega
  ·exact aYk d h c a
theorem win_eq (g:Int) (l:List gW) (A:Arr 16 gW) (B:l.length<=9223372036854775807) (p: ∀r∈l,0<=r.Number/\r.Number<=4194303):
  Ff1 g (l,A)=some (l.dropWhile (λr=>decide (r.Number/16<=g)),jR g (l.takeWhile λr=>decide (r.Number/16<=g)) A):=by
 have u:=aQg (λr:gW=>decide (r.Number/16<=g)) l;obtain⟨s,hd⟩:=aBx (λr:gW=>decide (r.Number/16<=g)) l;unfold Ff1;refine xE (λi=>(l.drop i,jR g (l.take i) A)) (l.takeWhile λr:gW=>decide (r.Number/16<=g)).length (by omega) rfl (λk i hi=>?_) (λk=>?_)
 ·have t:i<l.length:=by omega
  have b:l[i]? =some l[i]:=gE t;have m:decide (l[i].Number/16<=g)=true:=aQx (q:=λr:gW=>decide (r.Number/16<=g)) hi b;obtain⟨f,v⟩:=p _ (List.getElem_mem t);have a:decide (0<((l.drop i).length:Int))=true:=dT (by rw [List.length_drop];omega);have n:at' (l.drop i) 0=some l[i]:=yU (i:=0) (by rw [List.getElem?_drop];exact b);have d:sub' (l.drop i) 1 ((l.drop i).length:Int)=some (l.drop (i+1)):=by
   unfold sub';rw [if_pos (by rw [List.length_drop];omega)]
   congr 1
   rw [show(1:Int).toNat=1 from rfl,List.drop_drop,List.take_of_length_le];rw [List.length_drop,List.length_drop];omega
  have w:jR g (l.take (i+1)) A=if l[i].Number/16=g then Arr.set (jR g (l.take i) A) (l[i].Number%16) l[i]else jR g (l.take i) A:=by
   rw [cZ b];unfold jR;rw [foldl_snoc]
  have e: ∃z,at' (jR g (l.take i) A).l (l[i].Number%16)=some z:=by
   obtain⟨j,x⟩: ∃j:Nat,l[i].Number%16=(j:Int):=⟨(l[i].Number%16).toNat,by omega⟩;rw [x,aGx];have o:j<(jR g (l.take i) A).l.length:=by rw [(jR g (l.take i) A).h];omega
   exact⟨_,gE o⟩
  obtain⟨z,y⟩:=e;simp only [zK,a,zV,n,zC,d];rw [kX f (by omega) (by decide),zC,m,zC,zV,zC,aJl f (by decide),zC,y,zC,xA,w]
  by_cases c:l[i].Number/16=g
  ·rw [if_pos c,if_pos c,zC]
  ·rw [if_neg c,if_neg c,zC]
 ·by_cases c:(l.takeWhile λr:gW=>decide (r.Number/16<=g)).length<l.length
  ·have b:l[(l.takeWhile λr:gW=>decide (r.Number/16<=g)).length]? =some l[(l.takeWhile λr:gW=>decide (r.Number/16<=g)).length]:=gE c;have m:=aOy (q:=λr:gW=>decide (r.Number/16<=g)) b;obtain⟨f,v⟩:=p _ (List.getElem_mem c);have a:decide (0<((l.drop (l.takeWhile λr:gW=>decide (r.Number/16<=g)).length).length:Int))=true:=dT (by rw [List.length_drop];omega);have n:at' (l.drop (l.takeWhile λr:gW=>decide (r.Number/16<=g)).length) 0=some l[(l.takeWhile λr:gW=>decide (r.Number/16<=g)).length]:=yU (i:=0) (by rw [List.getElem?_drop];exact b);simp only [zK,a,zV,n,zC];rw [kX f (by omega) (by decide),zC,m,zC,zT,s,hd]
  ·have a:decide (0<((l.drop (l.takeWhile λr:gW=>decide (r.Number/16<=g)).length).length:Int))=false:=qD (by rw [List.length_drop];omega);simp only [zK,a,zT,zC];rw [s,hd]
theorem rest_ok {r:gW} (o:SzR r) (h:rsM r=0):vU r/\0<=r.Number/\r.Number<=4194303:=by
 obtain⟨g,_,p,f⟩:=o;unfold rsM at h;have e:r.Frame.l.map Int.toNat=g:=by rw [f];exact aWk
 rw [e]at h;have k:bV r.Number 0 4194303=false:=by
  unfold aUk at h;split at h
  ·cases h
  ·rename_i c;simpa using c
 have d:=aQz r g k;rw [h]at d;refine⟨⟨?_,?_⟩,aCg.1 k⟩
 ·intro x a;rw [f]at a;unfold en at a;obtain⟨_,q,rfl⟩:=List.mem_map.1 a;obtain⟨i,hi,rfl⟩:=List.mem_iff_getElem.1 q;have:=p i;unfold wd at this;rw [List.getD_eq_getElem?_getD,gE hi]at this;simp at this;omega
 ·intro x a;obtain⟨i,hi,rfl⟩:=List.mem_iff_getElem.1 a;rcases nN (stF r.Frame.l) r.States.l 0 with ⟨_,_,_,-,b,m⟩|⟨s,m⟩
  ·rw [m]at d;subst d;unfold stF at b;split at b
   ·cases b
   ·split at b<;>cases b
  ·exact aZl (s i _ (gE hi))
structure aLg (l:List gW):Prop where
 n:l.length<=5000
 good: ∀r∈l,vU r/\0<=r.Number/\r.Number<=4194303
 srt:Srt l
theorem rs_ok {l:List gW}(b: ∀r∈l,SzR r)(h:aYl l):aLg l:=⟨h.n,λr a=>rest_ok (b r a) (h.all r a),srt_of h.ord⟩
theorem aCi {l:List gW} (h:aLg l) (n:Int):vU (kP l n):=by
 by_cases c: ∃r∈l,r.Number=n;obtain⟨r,a,b⟩:=c;rw [uN h.srt a b];exact(h.good r a).1;rw [wG (λr a b=>c ⟨r,a,b⟩)];exact aVh
theorem one_take {p:Param}(a:pG p=0):(tkP 0 ((gV p 0).flatMap bP) []).1=true:=by
 unfold pG at a;split at a;cases a;split at a;cases a;split at a;rename_i c;exact absurd a c;split at a;rename_i c;exact absurd a c;split at a;rename_i c;exact absurd a c;split at a;cases a;rename_i c;simpa using c
theorem aWd {m:Map}{p:Param}(hm:m.Params=[p])(b:SzP p):SzM m:=⟨by rw [hm,List.length_singleton];omega,λ_ a=>by rw [hm]at a;rw [mS.1 a];exact b⟩
theorem aYb {m:Map}{p:Param}(hm:m.Params=[p])(f:m.Version=0)(g:SzP p)(c:pG p=0):Fa1 m=some (-1,0):=by
 have d:=jE c;have b:=aWd hm g;have a: ∀q∈m.Params,tX q:=λq e=>by rw [hm]at e;rw [mS.1 e];exact d
 have h:=bT d.tm 0;unfold Fa1;simp only [lwi,zC,zK,yN,chkL1 m b,chkL2 m b a,chkL3 m b a];rw [hm,f,List.length_singleton];rw [show(!(decide ((0:Int)<=0)&&decide ((0:Int)<=2047)))=false from rfl,zT,show decide ((200:Int)<((1:Nat):Int))=false from rfl,zT,bW];rw [show aOz [p] 0 p=none by unfold aOz;rw [if_pos c];rfl];show kH cntF _ [p] 0 0=_;rw [kH,cntF,Go.OB.wrap_i64 (by omega) (by omega),if_neg (by omega)];show kH tkF _ [p] 0 []=_;rw [kH,tkF,if_pos (show(tkP ((0:Nat):Int) ((gV p 0).flatMap bP) []).1=true from one_take c)];rfl
theorem aVp {m:Map}{p:Param} (hm:m.Params=[p]) (a:tX p):Fdk m=some (gV p 0):=by
 have b:=bT a.tm 0;unfold Fdk Fjy
 repeat (first |rw [zK]|rw [yN]|rw [zC])
 rw [hm,List.length_singleton];rw [xE (r:=some (gV p 0)) (λi=>match i with |0=>([],0)|_=>(gV p 0,1)) 1 (by decide)]
 ·rfl
 ·rfl
 ·intro k i _;obtain rfl:i=0:=by omega
  simp only [zK];rw [show decide ((0:Int)<((1:Nat):Int))=true from rfl,zV,show at' [p] 0=some p from rfl,zC,aQo a.pt a.tm,zC,kS (by rw [List.length_nil];omega) (by decide),zC];rfl
 ·intro k;rfl
theorem aWt {p:Param}(b:SzP p)(a:pG p=0):Fa6 (Map.mk 0 [p])=some (gV p 0,0):=by
 unfold Fa6;rw [aYb rfl rfl b a,zC];simp only [zK];rw [show decide ((0:Int)≠0)=false from rfl,zT,aVp rfl (jE a),zC]
def allM:List Param->Nat->List Cell
 | [],_=>[]
 |p::l,i=>gV p (i:Int)++allM l (i+1)
theorem aNu (p:Param): ∀(l:List Param) (i:Nat),allM (l++[p]) i=allM l i++gV p ((i+l.length:Nat):Int)
 | [],i=>by simp [allM]
 |q::l,i=>by rw [List.cons_append,allM,allM,aNu p l (i+1),List.append_assoc,List.length_cons,show i+1+l.length=i+(l.length+1)by omega]
theorem aMi: ∀(l:List Param) (i:Nat),(allM l i).length=(l.map λp=>(gV p 0).length).sum
 | [],_=>rfl
 |p::l,i=>by rw [allM,List.length_append,aMi l (i+1),List.map_cons,List.sum_cons,(vO p (i:Int)).2]
theorem aGt {p:Param}{a:Int}{c:Cell}(h:c∈gV p a):c.Param=a:=by
 obtain⟨_,_,_,-,-,rfl⟩:=aDx h;rfl
theorem aSk {l:List Param}{j:Nat}{p:Param}(h:l[j]? =some p):(allM l 0).filter (λc=>decide (c.Param=(j:Int)))=gV p (j:Int):=by
 have a: ∀(q:Param) (i:Nat),i≠j->(gV q (i:Int)).filter (λc=>decide (c.Param=(j:Int)))=[]:=by
  intro q i hi;rw [List.filter_eq_nil_iff];intro c b;rw [aGt b,decide_eq_true_eq];omega
 have none: ∀(l:List Param) (i:Nat),j<i->(allM l i).filter (λc=>decide (c.Param=(j:Int)))=[]:=by
  intro l
  induction l with
  |nil=>intro i _;rfl
  |cons q l d=>intro i hi;rw [allM,List.filter_append,a q i (by omega),d (i+1) (by omega)];rfl
 have e: ∀(l:List Param) (i k:Nat),i+k=j->l[k]? =some p->(allM l i).filter (λc=>decide (c.Param=(j:Int)))=gV p (j:Int):=by
  intro l
  induction l with
  |nil=>intro i k _ h;simp at h
  |cons q l d=>
   intro i k hk h;rw [allM,List.filter_append]
   cases k with
   |zero=>
    simp at h;subst h;obtain rfl:i=j:=by omega
    rw [none l (i+1) (by omega),List.append_nil,List.filter_eq_self];intro c b;rw [aGt b];exact dT rfl
   |succ k=>
    rw [a q i (by omega),d (i+1) k (by omega) (by simpa using h)];rfl
 exact e l 0 j (by omega) h
theorem aEa {m:Map} (e:SzM m) (hm:Fap m=some (0,0)) (f:aXx m) {j:Nat}{p:Param} (h:m.Params[j]? =some p):Fal m (j:Int)=some (gV p (j:Int)):=by
 have s:(allM m.Params 0).length<=4000:=by rw [aMi];exact f.cnt
 have a:Feh m=some (allM m.Params 0):=by
  unfold Feh Fhv
  repeat (first |rw [zK]|rw [yN]|rw [zC])
  rw [xE (r:=some (allM m.Params 0)) (λi=>(allM (m.Params.take i) 0,(i:Int))) m.Params.length e.pl]
  ·rfl
  ·rfl
  ·intro k i hi;have b:m.Params[i]? =some m.Params[i]:=gE hi;have t:=f.all _ (List.getElem_mem hi);have o:(allM (m.Params.take (i+1)) 0).length<=182400:=by
    rw [aMi];have: ∀l:List Param,(∀q∈l,tX q)->(l.map λp=>(gV p 0).length).sum<=l.length*912:=by
     intro l
     induction l with
     |nil=>intro _;simp
     |cons q l u=>
      intro g;rw [List.map_cons,List.sum_cons,List.length_cons];have:=u λz e=>g z (List.mem_cons_of_mem _ e)
      have:=bT (g q (List.mem_cons_self ..)).tm 0;omega
    have v:=this (m.Params.take (i+1)) λq g=>f.all q (List.mem_of_mem_take g)
    rw [List.length_take]at v;have:=f.n;have:min (i+1) m.Params.length<=200:=by omega
    generalize min (i+1) m.Params.length=z at *
    omega
   have d:allM (m.Params.take (i+1)) 0=allM (m.Params.take i) 0++gV m.Params[i] (i:Int):=by
    rw [cZ b,aNu,List.length_take,show 0+min i m.Params.length=i by omega]
   rw [d,List.length_append]at o;simp only [zK,yH hi,zV,yU b,zC,aIy t.pt t.tm];rw [kS (by omega) (by decide),zC,fO hi e.pl,d]
  ·intro k;simp only [zK,yK,zT,List.take_length]
 unfold Fal Fci;rw [hm,zC];simp only [zK];rw [show decide ((0:Int)≠0)=false from rfl,zT,a,zC,zC];unfold Fen;rw [xE (r:=some (gV p (j:Int))) (λi=>(((allM m.Params 0).take i).filter (λc=>decide (c.Param=(j:Int))),(i:Int))) (allM m.Params 0).length (by omega)]
 ·rfl
 ·rfl
 ·intro k i hi;have b:(allM m.Params 0)[i]? =some (allM m.Params 0)[i]:=gE hi;have w:(((allM m.Params 0).take i).filter (λc=>decide (c.Param=(j:Int)))).length<=4000:=Nat.le_trans (List.length_filter_le _ _) (by rw [List.length_take];omega);simp only [zK,yH hi,zV,yU b,zC,fO hi (by omega)];rw [kS (by rw [List.length_singleton];omega) (by decide),zC,cZ b,List.filter_append]
  by_cases c:(allM m.Params 0)[i].Param=(j:Int)
  ·rw [dT c,zV,zC,show [(allM m.Params 0)[i]].filter (λc=>decide (c.Param=(j:Int)))=[(allM m.Params 0)[i]]by simp [c]]
  ·rw [qD c,zT,zC,show [(allM m.Params 0)[i]].filter (λc=>decide (c.Param=(j:Int)))=[]by simp [c],List.append_nil]
 ·intro k;simp only [zK,yK,zT,List.take_length,aSk h]
def aX (m:Map)(p:Param)(rs:List gW)(base:Int)(c:Cell):dA:=dA.mk (dW p base c) (aRs m p (kP rs) base c.Places).1 (aRs m p (kP rs) base c.Places).2
def secL (m:Map)(p:Param)(rs:List gW)(cs:List Cell)(g:Int):List dA:=cs.map (aX m p rs (g*16))
def qI (m:Map)(p:Param)(rs:List gW)(cs:List Cell)(a:Int)(k:Nat):List dA:=(List.range k).flatMap λ(j:Nat)=>secL m p rs cs (a+(j:Int))
theorem aRb (m:Map)(p:Param)(rs:List gW)(cs:List Cell)(a:Int)(k:Nat):qI m p rs cs a (k+1)=qI m p rs cs a k++secL m p rs cs (a+(k:Int)):=by
 unfold qI;rw [List.range_succ,List.flatMap_append,List.flatMap_singleton]
theorem wX (m:Map)(p:Param)(rs:List gW)(cs:List Cell)(a:Int): ∀k,(qI m p rs cs a k).length=k*cs.length
 |0=>by simp [qI]
 |k+1=>by rw [aRb,List.length_append,wX m p rs cs a k,Nat.add_mul,Nat.one_mul];unfold secL;rw [List.length_map]
theorem aFm (p:Param) (a:Int):gV p a=(gV p 0).map λc=>Cell.mk a c.Index c.Frame c.Places:=by
 apply List.ext_getElem?;intro i;rw [List.getElem?_map];have h:(gV p a).length=(gV p 0).length:=(vO p a).2;by_cases hi:i<(gV p 0).length;have b:(gV p 0)[i]? =some (gV p 0)[i]:=gE hi;have h1:(gV p a)[i]? =some ((gV p a)[i]'(by omega)):=gE (by omega);obtain⟨s,e,a2,-⟩:=aIs (aC p) b;obtain⟨f,d,g,-⟩:=aIs (aC p) h1;rw [e]at d;obtain rfl:s=f:=by simpa using d
 rw [b,h1,a2,g];rfl;rw [List.getElem?_eq_none (by omega),List.getElem?_eq_none (by omega)];rfl
theorem sec_pi (m:Map)(p:Param)(rs:List gW)(a g:Int):secL m p rs (gV p a) g=secL m p rs (gV p 0) g:=by
 rw [aFm p a];unfold secL;rw [List.map_map];rfl
theorem jH {p:Param}(a:tX p){b:Int}{c:Cell}(d:c∈gV p b):c.Places.length<=8/\(∀x∈c.Places,aEs x)/\sW c.Places=(nY p.Parts).toNat:=by
 obtain⟨s,t,_,h1,e,rfl⟩:=aDx d;have:=aTp a s (t:Int);exact⟨this.2,λx f=>place_ok a h1 e f,this.1⟩
def aMa (rs:List gW)(a:Int):Nat->List gW
 |0=>rs
 |j+1=>(aMa rs a j).dropWhile λr=>decide (r.Number/16<=a+(j:Int))
theorem aFh (rs:List gW)(a:Int): ∀j,(aMa rs a j).Sublist rs
 |0=>List.Sublist.refl _
 |j+1=>(List.dropWhile_sublist _).trans (aFh rs a j)
theorem aRi {rs:List gW}{a:Int}{r:gW}(b:r∈rs): ∀j:Nat,a+(j:Int)<=r.Number/16->r∈aMa rs a j
 |0,_=>b
 |j+1,h=>aXb (aRi b j (by omega)) (qD (by omega))
theorem win_at {rs:List gW} (h:aLg rs) {d:Int} (j:Nat) (s:0<=d+(j:Int)) {f:Int} (f0:0<=f) (f1:f<=15):
  at' (jR (d+(j:Int)) ((aMa rs d j).takeWhile λr=>decide (r.Number/16<=d+(j:Int))) (Arr.rep 16 vF)).l f=some (kP rs ((d+(j:Int))*16+f)):=by
 have k:Srt (aMa rs d j):=List.Pairwise.sublist (aFh rs d j) h.srt;have n:Srt ((aMa rs d j).takeWhile λr=>decide (r.Number/16<=d+(j:Int))):=List.Pairwise.sublist (List.takeWhile_sublist _) k;obtain⟨i,rfl⟩: ∃i:Nat,f=(i:Int):=⟨f.toNat,by omega⟩;rw [aGx]
 by_cases c: ∃r∈rs,r.Number=(d+(j:Int))*16+(i:Int)
 ·obtain⟨r,e,o⟩:=c;rw [uN h.srt e o];have hm:r∈(aMa rs d j).takeWhile λr=>decide (r.Number/16<=d+(j:Int)):=by
   refine aWr k (aRi e j (by omega)) (dT (by omega)) (λ_ _ _ p=>?_);rw [decide_eq_true_eq]at p⊢;omega
  have:=aYk (g:=d+(j:Int)) (A:=Arr.rep 16 vF) n hm (by omega) (by omega);rw [show(r.Number%16).toNat=i by omega]at this;exact this
 ·rw [wG (λr e o=>c ⟨r,e,o⟩)];rw [aKk (λr e p=>?_)]
  ·show(List.replicate 16 vF)[i]? =some vF;rw [List.getElem?_replicate,if_pos (by omega)]
  ·have m:r∈rs:=(aFh rs d j).mem ((List.takeWhile_sublist _).mem e);exact c ⟨r,m,by have:=(h.good r m).2;omega⟩
theorem samples_l {m:Map}{p:Param}{rs:List gW} (u:SzP p) (q:pG p=0) (h:aLg rs) {a d:Int} (k:Nat) (B:0<=a) (hk:a+(k:Int)=d+1) (h1:d<=262143) (s:k*(gV p 0).length<=20000):
  Fds m p (gV p 0) rs a d=some (qI m p rs (gV p 0) a k):=by
 have e:=jE q;have v:(gV p 0).length<=912:=bT e.tm 0;unfold Fds Fip;rw [xE (r:=some (qI m p rs (gV p 0) a k)) (λj=>(aMa rs a j,qI m p rs (gV p 0) a j,a+(j:Int))) k (by omega)]
 ·rfl
 ·show(rs,[],a)=(rs,qI m p rs (gV p 0) a 0,a+((0:Nat):Int));rw [Int.natCast_zero,Int.add_zero];rfl
 ·intro f j _;have b:=aFh rs a j;have w:=b.length_le;have D:=h.n;have g:=wX m p rs (gV p 0) a j;have t:j*(gV p 0).length+(gV p 0).length<=20000:=by
   have:(j+1)*(gV p 0).length<=k*(gV p 0).length:=Nat.mul_le_mul_right _ (by omega);rw [Nat.add_mul,Nat.one_mul]at this;omega
  simp only [zK];rw [dT (by omega:a+(j:Int)<=d),zV,win_eq _ _ _ (by omega) (λr y=>(h.good r (b.mem y)).2),zC];simp only;rw [Go.OB.wrap_i64 (n:=(a+(j:Int))*16) (by omega) (by omega),aTc e (by omega) (by omega) 0,zC];have z:Fev m p (gV p 0) ((aMa rs a j).dropWhile λr=>decide (r.Number/16<=a+(j:Int))) (jR (a+(j:Int)) ((aMa rs a j).takeWhile λr=>decide (r.Number/16<=a+(j:Int))) (Arr.rep 16 vF)) ((gV p 0).map (dW p ((a+(j:Int))*16))) ((gV p 0).length:Int) (qI m p rs (gV p 0) a j,0)=some (aMa rs a (j+1),qI m p rs (gV p 0) a (j+1)):=by
   unfold Fev;refine xE (λi=>(qI m p rs (gV p 0) a j++((gV p 0).take i).map (aX m p rs ((a+(j:Int))*16)),(i:Int))) (gV p 0).length (by omega) ?_ (λf i hi=>?_) (λf=>?_)
   ·show _=(qI m p rs (gV p 0) a j++[],_);rw [List.append_nil];rfl
   ·have l:(gV p 0)[i]? =some (gV p 0)[i]:=gE hi;obtain⟨c1,c2,c3⟩:=jH e (List.getElem_mem hi);have A:at' ((gV p 0).map (dW p ((a+(j:Int))*16))) (i:Int)=some (dW p ((a+(j:Int))*16) (gV p 0)[i]):=yU (by rw [List.getElem?_map,l];rfl);simp only [zK,yH hi,zV,yU l,zC];rw [read_eq m p (gV p 0)[i] _ (kP rs) ((a+(j:Int))*16) u q c1 (λx o=>⟨c2 x o,aCi h _,win_at h j (by omega) (c2 x o).f0 (c2 x o).f1⟩) c3,zC];rw [A,zC,kS (by rw [List.length_append,g,List.length_map,List.length_take,List.length_singleton];omega) (by decide),zC,fO hi (by omega),cZ l,List.map_append,List.map_singleton,<-List.append_assoc];rfl
   ·simp only [zK,yK,zT,List.take_length];rw [aRb];rfl
  have c:(Arr.rep 16 (gW.mk 0 (Arr.rep 64 0:Arr 64 Int) (Arr.rep 64 0:Arr 64 Int) false 0 false):Arr 16 gW)=Arr.rep 16 vF:=rfl;rw [c,z,zC];rw [Go.OB.wrap_i64 (n:=a+(j:Int)+1) (by omega) (by omega),show a+(j:Int)+1=a+((j+1:Nat):Int)by omega]
 ·intro f;simp only [zK];rw [qD (by omega),zT]
theorem samples_5 {m:Map}{p:Param}{rs:List gW} (y:SzP p) (t:pG p=0) (h:aLg rs) {b:Int} (u:at' m.Params b=some p) {a c:Int} (k:Nat) (E:0<=a) (hk:a+(k:Int)=c+1) (h1:c<=262143) (v:k*(gV p 0).length<=20000):
  Fgt m b rs (gV p b) (c*16) (a*16,[])=some (qI m p rs (gV p 0) a k):=by
 have d:=jE t;have z:(gV p 0).length<=912:=bT d.tm 0;have A:(gV p b).length=(gV p 0).length:=(vO p b).2;unfold Fgt;refine xE (λj=>((a+(j:Int))*16,qI m p rs (gV p 0) a j)) k (by omega) ?_ (λe j _=>?_) (λe=>?_)
 ·show _=((a+((0:Nat):Int))*16,_);rw [Int.natCast_zero,Int.add_zero];rfl
 ·have G:=h.n;have f:=wX m p rs (gV p 0) a j;have w:j*(gV p 0).length+(gV p 0).length<=20000:=by
   have:(j+1)*(gV p 0).length<=k*(gV p 0).length:=Nat.mul_le_mul_right _ (by omega);rw [Nat.add_mul,Nat.one_mul]at this;omega
  simp only [zK];rw [dT (by omega:(a+(j:Int))*16<=c*16),zV,u,zC,aZd d (by omega) (by omega) b,zC,Go.OB.wrap_i64 (n:=(a+(j:Int))*16+16) (by omega) (by omega),near_eq _ _ _ (by omega),zC];have g:(aHj rs ((a+(j:Int))*16) ((a+(j:Int))*16+16)).length<=9223372036854775807:=by
   have:=((List.takeWhile_sublist (λr:gW=>decide (r.Number<(a+(j:Int))*16+16)) (l:=rs.dropWhile λr=>decide (r.Number<(a+(j:Int))*16))).trans (List.dropWhile_sublist _)).length_le;show((rs.dropWhile λr=>decide (r.Number<(a+(j:Int))*16)).takeWhile λr=>decide (r.Number<(a+(j:Int))*16+16)).length<=_;omega
  have B:Fgj m (gV p b) ((a+(j:Int))*16) ((gV p b).map (dW p ((a+(j:Int))*16))) (aHj rs ((a+(j:Int))*16) ((a+(j:Int))*16+16)) (0,qI m p rs (gV p 0) a j)=some (qI m p rs (gV p 0) a (j+1)):=by
   unfold Fgj;refine xE (λi=>((i:Int),qI m p rs (gV p 0) a j++((gV p b).take i).map (aX m p rs ((a+(j:Int))*16)))) (gV p b).length (by omega) ?_ (λe i hi=>?_) (λe=>?_)
   ·show _=(_,qI m p rs (gV p 0) a j++[]);rw [List.append_nil];rfl
   ·have o:(gV p b)[i]? =some (gV p b)[i]:=gE hi;obtain⟨c1,c2,c3⟩:=jH d (List.getElem_mem hi);have q:at' m.Params (gV p b)[i].Param=some p:=by rw [aGt (List.getElem_mem hi)];exact u
    have C:at' ((gV p b).map (dW p ((a+(j:Int))*16))) (i:Int)=some (dW p ((a+(j:Int))*16) (gV p b)[i]):=yU (by rw [List.getElem?_map,o];rfl);simp only [zK,yH hi,zV,yU o,zC];rw [sample_eq m p (gV p b)[i] _ (kP rs) ((a+(j:Int))*16) y t c1 (by omega) (by omega) g (λr D=>(h.good r (aTa D)).1)
     (λx s=>⟨c2 x s,aCi h _,near_at h.srt (by have:=(c2 x s).f0;omega) (by have:=(c2 x s).f1;omega)⟩) c3 q,zC]
    rw [C,zC,kS (by rw [List.length_append,f,List.length_map,List.length_take,List.length_singleton];omega) (by decide),zC,fO hi (by omega),cZ o,List.map_append,List.map_singleton,<-List.append_assoc];rfl
   ·simp only [zK,yK,zT,List.take_length];rw [aRb,<-sec_pi m p rs b];rfl
  rw [B,zC]
  congr 2
  omega
 ·simp only [zK];rw [qD (by omega),zT]
def bY (rs:List gW):Int:=match rs.getLast? with
 |some r=>r.Number/16
 |none=>0
def eX (rs:List gW):Int:=match rs.head? with
 |some r=>r.Number/16
 |none=>0
def mP (rs:List gW):Nat:=(bY rs-eX rs+1).toNat
def aIi (m:Map)(p:Param)(rs:List gW):jL×Bool:=if rs=[]then(jL.mk 1 [],true)else if 20000<(mP rs:Int)*(gV p 0).length+1 then(jL.mk 0 [],false)else(jL.mk 1 (qI m p rs (gV p 0) (eX rs) (mP rs)++[dA.mk ((bY rs+1)*1024) 0 0]),true)
theorem ends {rs:List gW} (h:aLg rs) (c:rs≠[]): ∃a b,at' rs 0=some a/\at' rs (IntKind.i64.wrap ((rs.length:Int)-1))=some b/\eX rs=a.Number/16/\bY rs=b.Number/16/\0<=a.Number/\b.Number<=4194303/\a.Number<=b.Number:=by
 have d:=h.n
 cases rs with
 |nil=>exact absurd rfl c
 |cons a l=>
  have e:(a::l)[l.length]? =some ((a::l)[l.length]'(by simp)):=gE (by simp);refine⟨a,(a::l)[l.length]'(by simp),rfl,?_,rfl,?_,(h.good a (List.mem_cons_self ..)).2.1,(h.good _ (List.getElem_mem (by simp))).2.2,?_⟩
  ·rw [List.length_cons]at d⊢;rw [wrap_i64 (by omega) (by omega),show((l.length+1:Nat):Int)-1=(l.length:Int)by omega];exact yU e
  ·unfold bY;rw [List.getLast?_eq_getElem?,List.length_cons,show l.length+1-1=l.length by omega,e]
  ·cases l with
   |nil=>exact Int.le_refl _
   |cons b l=>
    have h1:=(List.pairwise_cons.1 h.srt).1 ((a::b::l)[(b::l).length]'(by simp)) (by
     show(b::l)[l.length]'(by simp)∈b::l;exact List.getElem_mem _)
    omega
theorem made_5 {m:Map}{p:Param}{rs:List gW}(s:SzP p)(o:pG p=0)(h:aLg rs){f:Int}(t:at' m.Params f=some p)(d:Fal m f=some (gV p f)):Fdg m f rs=some (aIi m p rs):=by
 have u:=jE o;have v:(gV p 0).length<=912:=bT u.tm 0;have i:(gV p f).length=(gV p 0).length:=(vO p f).2;unfold Fdg aIi
 repeat (first |rw [zK]|rw [yN]|rw [zC])
 rw [xA]
 by_cases g:rs=[]
 ·subst g;rfl
 have q:rs.length≠0:=λe=>g (List.eq_nil_of_length_eq_zero e)
 rw [if_neg (by omega),if_neg g,d,zC];obtain⟨_,_,w,x,j,k,a0,_,_⟩:=ends h g;have z:(mP rs:Int)=bY rs-eX rs+1:=by unfold mP;rw [j,k];omega
 rw [w,zC,kX a0 (by omega) (by decide),zC,zK,zK,zK,x,zC,kX (by omega) (by omega) (by decide),zC,<-j,<-k];simp only [zK];have r:0<=eX rs/\eX rs<=bY rs/\bY rs<=262143:=by rw [j,k];omega
 have l:0<=(mP rs:Int)*((gV p 0).length:Int)/\(mP rs:Int)*((gV p 0).length:Int)<=262144*912:=by
  refine⟨Int.mul_nonneg (by omega) (by omega),?_⟩;exact Int.mul_le_mul (by omega) (by omega) (by omega) (by omega)
 rw [wrap_i64 (n:=eX rs*16) (by omega) (by omega),wrap_i64 (n:=bY rs*16) (by omega) (by omega),wrap_i64 (n:=bY rs*16-eX rs*16) (by omega) (by omega),kX (by omega) (by omega) (by decide),zC,
  show(bY rs*16-eX rs*16)/16=bY rs-eX rs by omega,wrap_i64 (n:=bY rs-eX rs+1) (by omega) (by omega),<-z,i,wrap_i64 (n:=(mP rs:Int)*((gV p 0).length:Int)) (by omega) (by omega),wrap_i64 (n:=(mP rs:Int)*((gV p 0).length:Int)+1) (by omega) (by omega),xA]
 by_cases c:20000<(mP rs:Int)*((gV p 0).length:Int)+1
 ·rw [if_pos c,if_pos c]
 rw [if_neg c,if_neg c];have hk:mP rs*(gV p 0).length<=20000:=by
  have:((mP rs*(gV p 0).length:Nat):Int)=(mP rs:Int)*((gV p 0).length:Int):=Int.natCast_mul _ _;omega
 rw [samples_5 s o h t (mP rs) r.1 (by omega) r.2.2 hk,zC,wrap_i64 (n:=bY rs*16+16) (by omega) (by omega),wrap_i64 (n:=64*(bY rs*16+16)) (by omega) (by omega),kS (by rw [wX,List.length_singleton];omega) (by decide),zC,
  show(64:Int)*(bY rs*16+16)=(bY rs+1)*1024 by omega]
theorem from_l {m:Map}{s:Str}{p:Param}{rs:List gW}(hm:Fat m=some (0,0))(f:m.Params.length<=9223372036854775807)(hi:0<=aZ m s)(g:m.Params[(aZ m s).toNat]? =some p)(t:SzP p)(j:pG p=0)(h:aLg rs)(w:Fav rs=some 0):
  Fc1 m s rs=some ((aIi m p rs).1,if (aIi m p rs).2=true then 0 else 3):=by
 have x:=jE j;have y:(gV p 0).length<=912:=bT x.tm 0;have k:at' m.Params (aZ m s)=some p:=by
  obtain⟨i,l⟩: ∃i:Nat,aZ m s=(i:Int):=⟨(aZ m s).toNat,by omega⟩;rw [l]at g⊢;rw [Int.toNat_natCast]at g;exact yU g
 unfold Fc1 aIi;rw [hm,zC];simp only [zK];rw [show decide ((0:Int)≠0)=false from rfl,zT,par_idxR m f s,zC,qD (by omega),zT,w,zC,show decide ((0:Int)≠0)=false from rfl,zT,xA]
 by_cases d:rs=[]
 ·subst d;rfl
 have u:rs.length≠0:=λe=>d (List.eq_nil_of_length_eq_zero e)
 rw [if_neg (by omega),if_neg d,k,zC,aWt t j,zC];obtain⟨_,_,z,A,o,q,a0,_,_⟩:=ends h d;have C:(mP rs:Int)=bY rs-eX rs+1:=by unfold mP;rw [o,q];omega
 rw [z,zC,kX a0 (by omega) (by decide),zC,A,zC,kX (by omega) (by omega) (by decide),zC,<-o,<-q];have v:0<=eX rs/\eX rs<=bY rs/\bY rs<=262143:=by rw [o,q];omega
 have r:0<=(mP rs:Int)*((gV p 0).length:Int)/\(mP rs:Int)*((gV p 0).length:Int)<=262144*912:=by
  refine⟨Int.mul_nonneg (by omega) (by omega),?_⟩;exact Int.mul_le_mul (by omega) (by omega) (by omega) (by omega)
 rw [wrap_i64 (n:=bY rs-eX rs) (by omega) (by omega),wrap_i64 (n:=bY rs-eX rs+1) (by omega) (by omega),<-C,wrap_i64 (n:=(mP rs:Int)*((gV p 0).length:Int)) (by omega) (by omega),wrap_i64 (n:=(mP rs:Int)*((gV p 0).length:Int)+1) (by omega) (by omega),xA]
 by_cases c:20000<(mP rs:Int)*((gV p 0).length:Int)+1
 ·rw [if_pos c,if_pos c];rfl
 rw [if_neg c,if_neg c];have hk:mP rs*(gV p 0).length<=20000:=by
  have:((mP rs*(gV p 0).length:Nat):Int)=(mP rs:Int)*((gV p 0).length:Int):=Int.natCast_mul _ _;omega
 rw [samples_l t j h (mP rs) v.1 (by omega) v.2.2 hk,zC,wrap_i64 (n:=bY rs+1) (by omega) (by omega),wrap_i64 (n:=(bY rs+1)*1024) (by omega) (by omega),kS (by rw [wX,List.length_singleton];omega) (by decide),zC];rfl
structure kQ (b:Book):Prop where
 mp:aXx b.Map
 ml:Fat b.Map=some (0,0)
 m2:Fap b.Map=some (0,0)
 rs:aLg b.Rests
 rl:Fav b.Rests=some 0
 sn:b.Sources.length<=30
 src: ∀(i:Nat) (x:fC),b.Sources[i]? =some x->aFo b i x=0
def aQ (b:Book)(x:fC):Param:=(b.Map.Params[(aZ b.Map x.Param).toNat]?).getD (Param.mk [] 0 [] 0 0 0 0 [])
theorem aZw {b:Book}{i:Nat}{x:fC}(h:aFo b i x=0):0<=aZ b.Map x.Param:=by
 unfold aFo at h;split at h;cases h;split at h;cases h;split at h;cases h;omega
theorem aCu {b:Book}{x:fC} (h:0<=aZ b.Map x.Param):b.Map.Params[(aZ b.Map x.Param).toNat]? =some (aQ b x)/\at' b.Map.Params (aZ b.Map x.Param)=some (aQ b x):=by
 rcases aEx (λy:Param=>decide (y.Name=x.Param)) b.Map.Params 0 with ⟨h1,-⟩|⟨j,y,h1,a,-,-⟩
 ·have:aZ b.Map x.Param= -1:=h1;omega
 ·have e:aZ b.Map x.Param=(j:Int):=by rw [Nat.zero_add]at h1;exact h1
  have c:aQ b x=y:=by unfold aQ;rw [e,Int.toNat_natCast,a];rfl
  rw [e,Int.toNat_natCast,c];exact⟨a,yU a⟩
def aDy (l:List gW)(fin:Option Int):Option Int:=if 5000<l.length then some 3 else bW rsF (if aRe l=true then some 10 else fin) l 0
theorem aFe (l:List gW):(∃v:Int,v≠0/\ ∀fin,aDy l fin=some v)\/((∀fin,aDy l fin=fin)/\aYl l):=by
 unfold aDy
 by_cases a:5000<l.length
 ·exact .inl ⟨3,by decide,λfin=>by rw [if_pos a]⟩
 rcases nN rsF l 0 with ⟨j,x,v,h1,b,d⟩|⟨h1,d⟩
 ·unfold rsF at b;split at b
  ·cases b
  ·rename_i c;cases b;exact .inl ⟨rsM x,c,λfin=>by rw [if_neg a,d]⟩
 ·cases ho:aRe l with
  |true=>exact .inl ⟨10,by decide,λfin=>by rw [if_neg a,d];rfl⟩
  |false=>
   refine .inr ⟨λfin=>by rw [if_neg a,d];rfl,by omega,?_,ho⟩;intro _ e;obtain⟨j,f,rfl⟩:=List.mem_iff_getElem.1 e;have:=h1 j _ (gE f);unfold rsF at this;split at this
   ·assumption
   ·cases this
theorem fault_K (l:List gW)(fin:Option Int):(gB (aHg l) λx=>gJ (decide (x≠0)) (some x) fin)=aDy l fin:=by
 have e:aHg l=aDy l (some 0):=rfl;rw [e];rcases aFe l with ⟨_,h1,a⟩|⟨h1,-⟩
 ·rw [a,a,zC,dT h1];rfl
 ·rw [h1,h1,zC];rfl
def aUp (b:Book):Nat->fC->Option (Option Int):=λi x=>if aFo b i x=0 then none else some (some (aFo b i x))
theorem bookL1 {b:Book}(a:SzB b)(fin:Option Int):Feq b (λ_=>fin) (b.Sources.length:Int) 0=bW (aUp b) fin b.Sources 0:=by
 unfold Feq;refine xY b.Sources _ _ a.sl (λk i x h1 c=>?_) (λk=>by simp only [zK,yK,zT]);simp only [zK,yH c,zV,src_l a h1,zC,fO c a.sl];rw [xA];unfold aUp;by_cases e:aFo b i x=0;rw [if_neg (by simpa using e),if_pos e];rw [if_pos e,if_neg e]
theorem bookR1 {b:Book} (g:SzB b) (fin:Option Int):Ff8 b (λ_=>fin) 0=bW (aUp b) fin b.Sources 0:=by
 unfold Ff8;refine xY b.Sources _ _ g.sl (λk i x h1 q=>?_) (λk=>by simp only [zK,yK,zT]);have r:=g.ss x (qS h1);have s:=g.sl;simp only [zK,yN,yH q,zV,yU h1,zC,fO q g.sl,aUq x.Track r.tr];unfold aUp aFo
 cases aTs x.Track with
 |false=>rfl
 |true=>
  simp only [Bool.not_true,zT,Bool.true_eq_false,if_false];unfold Fjp;have h:(b.Sources.take i).length=i:=by rw [List.length_take];omega
  rw [jS (b.Sources.take i) (λy=>decide (y.Track=x.Track)) (some 5) (gB (Faz b.Map x.Param) λn=>gJ (decide (n<0)) (some 4) (gJ (decide (1<(x.Meaning.length:Int))) (some 2)
    (gJ (decide ((x.Meaning.length:Int)=1)) (gB (at' x.Meaning 0) λo=>gB (Fbo o) λm=>gJ (decide (m≠0)) (some m) (gB (Fa2 x.Long 0 1099511627776) λa=>gJ a (some 9) (k ((i+1:Nat):Int)))) (gB (Fa2 x.Long 0 1099511627776) λa=>gJ a (some 9) (k ((i+1:Nat):Int)))))) (by omega)
   (λt j y g1 g2=>by
    rw [h]at g2;have p:b.Sources[j]? =some y:=by rw [List.getElem?_take]at g1;rw [if_pos g2]at g1;exact g1
    simp only [zK,yH g2,zV,yU p,zC,fO g2 (by omega)])
   (λt=>by simp only [zK,h,yK,zT])]
  cases((b.Sources.take i).any λy=>decide (y.Track=x.Track))with
  |true=>rfl
  |false=>
   simp only [zT,Bool.false_eq_true,if_false];rw [par_5 b.Map g.mp.pl,zC,xA]
   by_cases c4:aZ b.Map x.Param<0
   ·rw [if_pos c4,if_pos c4];rfl
   rw [if_neg c4,if_neg c4,xA]
   by_cases c2:1<x.Meaning.length
   ·rw [if_pos c2,if_pos (by omega)];rfl
   rw [if_neg c2,if_neg (by omega),out7];simp only [zC];have f: ∀z,gJ (decide (x.Long<0)||decide (1099511627776<x.Long)) (some (9:Int)) z=if bV x.Long 0 1099511627776=true then some 9 else z:=by
    intro z;show gJ (bV x.Long 0 1099511627776) _ _=_
    cases bV x.Long 0 1099511627776<;>rfl
   rw [f];unfold aKf;rcases hm:x.Meaning with _|⟨c,_|⟨_,_⟩⟩
   ·cases bV x.Long 0 1099511627776<;>rfl
   ·rw [show decide ((([c]:List eU).length:Int)=1)=true from rfl,zV,show at' [c] 0=some c from rfl,zC,cal_5 c (r.ms c (by rw [hm];exact List.mem_cons_self ..)),aZk,zC,xA]
    by_cases e:aLw c=0
    ·simp only [e,ne_eq,not_true,if_false]
     cases bV x.Long 0 1099511627776<;>rfl
    ·simp only [e,ne_eq,not_false_eq_true,if_true,if_false]
   ·rw [hm]at c2;simp at c2
def wU (b:Book):Bool:=b.Sources.any λx=> !(aIi b.Map (aQ b x) b.Rests).2
theorem book_two {b:Book} (a:SzB b): ∃e,Fby b=some e/\Fb0 b=some e/\(e=0->kQ b/\wU b=false):=by
 obtain⟨v,m1,m2,m3⟩:=aXq a.mp;unfold Fby Fb0;rw [m1,m2,zC,zC];obtain⟨_,v2⟩:=v;simp only [zK,yN]
 by_cases c0: ¬v2=0
 ·rw [dT c0];exact⟨v2,rfl,rfl,λh=>absurd h c0⟩
 have c0:v2=0:=by omega
 subst c0;obtain⟨rfl,o⟩:=m3 rfl;rw [show decide ((0:Int)≠0)=false from rfl,zT,zT]
 by_cases A:30<b.Sources.length
 ·rw [dT (show(30:Int)<(b.Sources.length:Int)by omega),zV,zV];exact⟨3,rfl,rfl,λh=>by cases h⟩
 rw [qD (show¬(30:Int)<(b.Sources.length:Int)by omega),zT,zT,bookL1 a,bookR1 a];rcases nN (aUp b) b.Sources 0 with ⟨_,x,v,h1,d,g⟩|⟨h1,g⟩
 ·rw [g,g];unfold aUp at d;split at d
  ·cases d
  ·rename_i c;cases d;exact⟨_,rfl,rfl,λh=>absurd h c⟩
 rw [g,g,fault_5 b.Rests a.rl a.rs];have l: ∀(i:Nat) (x:fC),b.Sources[i]? =some x->aFo b i x=0:=by
  intro i x hi;have:=h1 i x hi;rw [Nat.zero_add]at this;unfold aUp at this;split at this
  ·assumption
  ·cases this
 have B:(gJ (decide (5000<(b.Rests.length:Int))) (some 3) (Fgu b (λ_=>Fei b (λ_=>Fbd b (λ_=>some 0) (b.Sources.length:Int) 0) 1) (b.Rests.length:Int) 0))=aDy b.Rests (Fbd b (λ_=>some 0) (b.Sources.length:Int) 0):=by
  unfold aDy;rw [xA]
  by_cases c:5000<b.Rests.length
  ·rw [if_pos c,if_pos (by omega)]
  rw [if_neg c,if_neg (by omega)];unfold Fgu;refine xY b.Rests rsF _ a.rl (λk i x h1 d=>?_) (λk=>?_)
  ·have C:=a.rs x (qS h1);simp only [zK,yH d,zV,yU h1,zC,fO d a.rl,aZs C];rw [xA];unfold rsF
   by_cases e:rsM x=0
   ·rw [if_neg (by simpa using e),if_pos e]
   ·rw [if_pos e,if_neg e]
  ·simp only [zK,yK,zT];have D:=a.rl;unfold Fei;rw [aHf b.Rests (λp=>decide (p.2.Number<=p.1.Number)) (some 10) (Fbd b (λ_=>some 0) (b.Sources.length:Int) 0) a.rl]
   ·unfold aRe
    cases(vH b.Rests).any λp=>decide (p.2.Number<=p.1.Number)<;>rfl
   ·intro k i x _ h1 d g;simp only [zK,yH g,zV,yU d,zC,aWe (show i<=9223372036854775806 by omega),yU h1,fO g a.rl]
   ·intro k _ _;simp only [zK];rw [qD (by omega),zT]
 rw [B,fault_K];rcases aFe b.Rests with ⟨v,g1,g2⟩|⟨g1,g2⟩
 ·rw [g2,g2];exact⟨v,rfl,rfl,λh=>absurd h g1⟩
 rw [g1,g1];have q:=rs_ok a.rs g2;have r:Fav b.Rests=some 0:=by
  rw [fault_l b.Rests a.rl a.rs];exact g1 (some 0)
 have m: ∀(i:Nat) (x:fC),b.Sources[i]? =some x->SzP (aQ b x)/\pG (aQ b x)=0/\0<=aZ b.Map x.Param:=by
  intro i x hi;have z:=aZw (l i x hi);have hm:=qS (aCu z).1;exact⟨a.mp.ps _ hm,(o.all _ hm).ck,z⟩
 have E:Fbd b (λ_=>some 0) (b.Sources.length:Int) 0=gJ (wU b) (some 3) (some 0):=by
  unfold Fbd;refine jS b.Sources (λx=> !(aIi b.Map (aQ b x) b.Rests).2) (some 3) (some 0) a.sl (λk i x h1 d=>?_) (λk=>by simp only [zK,yK,zT]);obtain⟨u,w,t⟩:=m i x h1;simp only [zK,yH d,zV,yU h1,zC,fO d a.sl,from_l m1 a.mp.pl t (aCu t).1 u w q r]
  cases(aIi b.Map (aQ b x) b.Rests).2<;>rfl
 have F:Ffn b (λ_=>some 0) 0=gJ (wU b) (some 3) (some 0):=by
  unfold Ffn;refine jS b.Sources (λx=> !(aIi b.Map (aQ b x) b.Rests).2) (some 3) (some 0) a.sl (λk i x h1 d=>?_) (λk=>by simp only [zK,yK,zT]);obtain⟨u,w,t⟩:=m i x h1;have s:=aCu t;have f:=aEa a.mp m2 o s.1;rw [show(((aZ b.Map x.Param).toNat:Nat):Int)=aZ b.Map x.Param by omega]at f;simp only [zK,yH d,zV,yU h1,zC,fO d a.sl,par_5 b.Map a.mp.pl,made_5 u w q s.2 f]
 rw [E,F]
 cases hlb:wU b with
 |true=>exact⟨3,rfl,rfl,λh=>by cases h⟩
 |false=>exact⟨0,rfl,rfl,λ_=>⟨⟨o,m1,m2,q,r,by omega,l⟩,rfl⟩⟩
structure SmpOk (x:dA):Prop where
 a0:0<=x.At
 a1:x.At<=1099511627776
 n0: -1125899906842624<=x.N
 n1:x.N<=1125899906842624
 m0:0<=x.Mark
 m1:x.Mark<=4
 nm:x.N≠0->2<=x.Mark
theorem smp_ok {m:Map}{p:Param}{rs:List gW} (i:SzP p) (f:pG p=0) (h:aLg rs) {base:Int} (j:0<=base) (h1:base<=5000000) {c:Cell} (b:c∈gV p 0):
  SmpOk (aX m p rs base c)/\64*base<=(aX m p rs base c).At/\(aX m p rs base c).At<64*(base+16):=by
 have e:=jE f;obtain⟨_,_,_,_,_,_,_,_⟩:=aVu e j h1 b;obtain⟨c1,c2,c3⟩:=jH e b;have k:=aYj (R:=kP rs) (base:=base) (l:=c.Places) λx n=>⟨c2 x n,aCi h _⟩
 obtain⟨v,o,d1,-,d3,d4⟩:=aOw i f (aBi (kP rs) base c.Places) (by have:=aEz (kP rs) base c.Places;rw [c3]at this;rw [uO];omega);have hd:aSf p (aBi (kP rs) base c.Places)=(v,o):=by unfold aSf;rw [d1];rfl
 have t1:=e.tm.t1;have B:64*(c.Index%p.Times)/p.Times<64:=by
  have:c.Index%p.Times<p.Times:=Int.emod_lt_of_pos _ (by omega);exact Int.ediv_lt_of_lt_mul (by omega) (by omega)
 have d:(aX m p rs base c).At=64*(base+c.Frame)+64*(c.Index%p.Times)/p.Times:=rfl;have hm:((aX m p rs base c).N,(aX m p rs base c).Mark)=aRs m p (kP rs) base c.Places:=rfl;unfold aRs at hm;rw [hd]at hm;refine⟨?_,by rw [d];omega,by rw [d];omega⟩;have a: -1125899906842624<=(aX m p rs base c).N/\(aX m p rs base c).N<=1125899906842624/\0<=(aX m p rs base c).Mark/\(aX m p rs base c).Mark<=4/\((aX m p rs base c).N≠0->2<=(aX m p rs base c).Mark):=by
  split at hm
  ·simp only [Prod.mk.injEq]at hm;omega
  ·rename_i g;simp only [Bool.or_eq_true,not_or,decide_eq_true_eq]at g;have q:=g.1;split at hm
   ·simp only [Prod.mk.injEq]at hm;omega
   ·simp only [Prod.mk.injEq]at hm;omega
 exact⟨by rw [d];omega,by rw [d];omega,a.1,a.2.1,a.2.2.1,a.2.2.2.1,a.2.2.2.2⟩
theorem span_eq {b:Book} (h:aLg b.Rests):Fbh b=some (if b.Rests=[]then(0,0,false)else(eX b.Rests,bY b.Rests,true)):=by
 unfold Fbh
 repeat (first |rw [zK]|rw [yN]|rw [zC])
 rw [xA]
 by_cases c:b.Rests=[]
 ·rw [if_pos c,if_pos (by rw [c];rfl)]
 ·have a:b.Rests.length≠0:=λe=>c (List.eq_nil_of_length_eq_zero e)
  obtain⟨_,_,d,f,g,i,a0,_,_⟩:=ends h c;rw [if_neg c,if_neg (by omega),d,zC,kX a0 (by omega) (by decide),zC]
  repeat (first |rw [zK]|rw [yN]|rw [zC])
  rw [f,zC,kX (by omega) (by omega) (by decide),zC,g,i]
structure aLx (b:Book)(x:fC):Prop where
 par:0<=aZ b.Map x.Param
 sz:SzP (aQ b x)
 ck:pG (aQ b x)=0
 m1:x.Meaning.length<=1
 mc: ∀c∈x.Meaning,aLw c=0/\c.Lines.length<=9223372036854775807
 fit:(aIi b.Map (aQ b x) b.Rests).2=true
theorem src_ok {b:Book} (k:SzB b) (m:kQ b) (j:wU b=false) {i:Nat}{x:fC} (hi:b.Sources[i]? =some x):aLx b x:=by
 have h:=m.src i x hi;have hm:=qS hi;have n:=aZw h;have a:=qS (aCu n).1;have o:=k.ss x hm;have f:(aIi b.Map (aQ b x) b.Rests).2=true:=by
  unfold wU at j;rw [List.any_eq_false]at j;have:=j x hm;simpa using this
 unfold aFo at h;split at h
 ·cases h
 split at h
 ·cases h
 split at h
 ·cases h
 split at h
 ·cases h
 rename_i c2;split at h
 ·rename_i c;exact absurd h c
 rename_i c5;refine⟨n,k.mp.ps _ a,(m.mp.all _ a).ck,by omega,λc g=>⟨?_,o.ms c g⟩,f⟩;unfold aKf at c5;rcases hmm:x.Meaning with _|⟨_,_|⟨_,_⟩⟩
 ·rw [hmm]at g;cases g
 ·rw [hmm]at g c5;rw [mS.1 g];simpa using c5
 ·rw [hmm]at c2;simp at c2
def aPh (a:List gK):List (gK×Bool):=a.foldl (λm w=>kF m w true) []
theorem app1 (p q:List Int)(h:p.length+q.length<=140737488355328):app' 1 p q=some (p++q):=by
 unfold app';rw [if_pos ⟨by rw [Go.OB.maxLen_eq];omega,by omega⟩]
theorem aDj (p:List Int)(n:Int)(a:0<=n/\n<=18446744073709551615)(h:p.length+20<=140737488355328): ∃q,Fbg p n 10=some q/\q.length<=p.length+20:=by
 unfold Fbg;rw [if_pos ⟨rfl,a.1,a.2,h⟩];refine⟨_,rfl,?_⟩;rw [List.length_append,aEu,Lib.decDigits_length];have:=Lib.nDigits_le20 n.toNat (by omega);omega
theorem aZu (n:Int):0<=IntKind.u64.wrap n/\IntKind.u64.wrap n<=18446744073709551615:=by
 rw [IntKind.wrap_u64];omega
theorem aPi (p:List Int) (n:Int) (h:p.length+21<=140737488355328): ∃q,Fdr p n 10=some q/\q.length<=p.length+21:=by
 have e: ∃q,Fdc p n 10=some q/\q.length<=p.length+21:=by
  unfold Fdc;simp only [zK,xA]
  by_cases c:n<0
  ·have b:=app1 p [45] (by simp;omega);rw [if_pos c,b,zC,zC];obtain⟨q,h1,a⟩:=aDj (p++[45]) (IntKind.u64.wrap (-IntKind.u64.wrap n)) (aZu _) (by simp;omega);simp only [];rw [h1,zC];exact⟨q,rfl,by simp at a;omega⟩
  ·rw [if_neg c,zC];obtain⟨q,h1,a⟩:=aDj p (IntKind.u64.wrap n) (aZu _) (by omega);simp only [];rw [h1,zC];exact⟨q,rfl,by omega⟩
 obtain⟨q,h1,a⟩:=e;unfold Fdr;rw [h1,zC];exact⟨q,rfl,a⟩
def Gr (r:Option gY)(n:Nat):Prop:= ∃q,r=some q/\q.out.length<=n
theorem Gr.bind {a:Option gY}{k:gY->Option gY}{n m:Nat}(h:Gr a n)(hk: ∀q,q.out.length<=n->Gr (k q) m):Gr (gB a k) m:=by
 obtain⟨q,h1,b⟩:=h;rw [h1,zC];exact hk q b
theorem Gr.some {q:gY}{n:Nat}(h:q.out.length<=n):Gr (Option.some q) n:=⟨q,rfl,h⟩
theorem aIx (p:gY)(n:Int){b:Nat}(a:p.out.length<=b)(h:b<=100000000000000):Gr (Fau p n) (b+22):=by
 obtain⟨q,h1,_⟩:=aPi p.out n (by omega);unfold Fau;rw [h1,zC];simp only [zK];rw [app1 q [32] (by simp;omega),zC];exact Gr.some (by simp;omega)
theorem aWc:Fdw=some true:=by decide+kernel
def aUl (x:Part):Prop:=i64 x.Frame/\i64 x.Word/\i64 x.Low/\i64 x.Bits
def aIo (x:Param):Prop:=okS x.Name/\i64 x.Kind/\okL (λx=>aUl x) x.Parts/\i64 x.First/\i64 x.Every/\i64 x.Times/\i64 x.Step/\okL (λx=>okS x) x.Names
def okMap (x:Map):Prop:=i64 x.Version/\okL (λx=>aIo x) x.Params
def aVe (x:Line):Prop:=i64 x.From/\i64 x.To/\i64 x.A/\i64 x.B
def wO (x:eU):Prop:=i64 x.Den/\okL (λx=>aVe x) x.Lines/\i64 x.Low/\i64 x.High
def aGn (x:fC):Prop:=okS x.Track/\okS x.Param/\okL (λx=>wO x) x.Meaning/\i64 x.Long
def aJb (x:gW):Prop:=i64 x.Number/\(∀y∈x.Frame.l,(Lit.int .u16 y).wf=true)/\(∀y∈x.States.l,i64 y)/\True/\i64 x.Copies/\True
def aVj (x:Book):Prop:=okMap x.Map/\okL (λx=>aGn x) x.Sources/\okL (λx=>aJb x) x.Rests
theorem szP {p:Param}(h:aIo p):SzP p:=⟨h.1,h.2.2.1.1,h.2.2.2.2.2.2.2.1,λs a=>h.2.2.2.2.2.2.2.2 s a⟩
theorem szR {r:gW} (h:aJb r):SzR r:=by
 have c:=h.2.1;have a: ∀x∈r.Frame.l,0<=x/\x<65536:=by
  intro x d;have:=bounds_u16 (c x d);omega
 refine⟨r.Frame.l.map Int.toNat,by rw [List.length_map];exact r.Frame.h,?_,?_⟩
 ·intro i;unfold wd;rw [List.getD_eq_getElem?_getD,List.getElem?_map]
  cases hi:r.Frame.l[i]? with
  |none=>show(0:Nat)<65536;decide
  |some x=>
   have:=a x (qS hi);show x.toNat<65536;omega
 ·apply Arr.ext;unfold en;simp only [List.map_map];have: ∀l:List Int,(∀x∈l,0<=x/\x<65536)->l=l.map ((λn:Nat=>(n:Int))∘Int.toNat):=by
   intro l
   induction l with
   |nil=>intro _;rfl
   |cons x l e=>
    intro b;rw [List.map_cons,<-e λy f=>b y (List.mem_cons_of_mem _ f)];have:=b x (List.mem_cons_self ..)
    congr 1
    show x=((x.toNat:Nat):Int);omega
  exact this _ a
theorem szB {b:Book}(h:aVj b):SzB b:=
 ⟨⟨h.1.2.1,λp d=>szP (h.1.2.2 p d)⟩,h.2.1.1,λx a=>⟨(h.2.1.2 x a).1,(h.2.1.2 x a).2.2.1.1,λc e=>((h.2.1.2 x a).2.2.1.2 c e).2.1.1⟩,h.2.2.1,λr f=>szR (h.2.2.2 r f)⟩
end Go.Lf
