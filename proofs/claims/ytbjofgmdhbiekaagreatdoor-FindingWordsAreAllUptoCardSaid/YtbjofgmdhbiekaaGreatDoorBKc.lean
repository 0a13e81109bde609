/- Laws that the claim stands on; no condition beyond those stated. -/
import Derived.Test.YtbjofgmdhbiekaaGreatDoorBKb
namespace Go.Lf
open Go.RowKit Go.OB Go.Fr1
theorem aQj {a:Type}{q:a->Bool}: ∀{l:List a}{i:Nat}{x:a},i<(l.takeWhile q).length->l[i]? =some x->q x=true
 | [],i,x,h,_=>by simp at h
 |z::l,i,x,h,b=>by
  rw [List.takeWhile_cons]at h
  by_cases c:q z=true
  ·rw [if_pos c]at h
   cases i with
   |zero=>simp at b;rw [<-b];exact c
   |succ i=>exact aQj (l:=l) (by simpa using h) (by simpa using b)
  ·rw [if_neg c]at h;simp at h
theorem aRf {b:Type}{q:b->Bool}: ∀{l:List b}{x:b},l[(l.takeWhile q).length]? =some x->q x=false
 | [],x,a=>by simp at a
 |z::l,x,a=>by
  rw [List.takeWhile_cons]at a
  by_cases c:q z=true
  ·rw [if_pos c]at a;exact aRf (l:=l) (by simpa using a)
  ·rw [if_neg c]at a;simp at a;rw [<-a];simpa using c
theorem aRc {a:Type}(q:a->Bool)(l:List a):(l.takeWhile q).length<=l.length:=(List.takeWhile_sublist _).length_le
theorem aBi {a:Type}(q:a->Bool): ∀l:List a,l.take (l.takeWhile q).length=l.takeWhile q/\l.drop (l.takeWhile q).length=l.dropWhile q
 | []=>⟨rfl,rfl⟩
 |z::l=>by
  have b:=aBi q l;rw [List.takeWhile_cons,List.dropWhile_cons]
  by_cases c:q z=true
  ·rw [if_pos c,if_pos c];exact⟨by rw [List.length_cons,List.take_succ_cons,b.1],by rw [List.length_cons,List.drop_succ_cons,b.2]⟩
  ·rw [if_neg c,if_neg c];exact⟨rfl,rfl⟩
theorem aWe {a:Type}{q:a->Bool}: ∀{l:List a}{x:a},x∈l->q x=false->x∈l.dropWhile q
 |z::l,x,h,b=>by
  rw [List.dropWhile_cons]
  by_cases c:q z=true
  ·rw [if_pos c];rcases List.mem_cons.1 h with rfl|h
   ·rw [b]at c;cases c
   ·exact aWe h b
  ·rw [if_neg c];exact h
def Srt (l:List gW):Prop:=l.Pairwise λa b=>a.Number<b.Number
theorem srt_of: ∀{l:List gW},aPs l=false->Srt l
 | [],_=>List.Pairwise.nil
 | [x],_=>List.pairwise_singleton _ _
 |x::y::l,h=>by
  have b:(decide (y.Number<=x.Number)||aPs (y::l))=false:=h;rw [Bool.or_eq_false_iff,decide_eq_false_iff_not]at b;have c:Srt (y::l):=srt_of b.2;refine List.Pairwise.cons (λz a=>?_) c;rcases List.mem_cons.1 a with rfl|a
  ·omega
  ·have:=(List.pairwise_cons.1 c).1 z a;omega
theorem aWo {q:gW->Bool}: ∀{l:List gW}{x:gW},Srt l->x∈l->q x=true->(∀a b:gW,a.Number<b.Number->q b=true->q a=true)->x∈l.takeWhile q
 |z::l,x,d,h,c,hd=>by
  obtain⟨h1,e⟩:=List.pairwise_cons.1 d;rw [List.takeWhile_cons];rcases List.mem_cons.1 h with rfl|h
  ·rw [if_pos c];exact List.mem_cons_self ..
  ·rw [if_pos (hd z x (h1 x h) c)];exact List.mem_cons_of_mem _ (aWo e h c hd)
theorem mD {n:Int}: ∀{l:List gW}{r:gW},Srt l->r∈l->r.Number=n->dW l n=r
 |z::l,r,b,h,a=>by
  obtain⟨h1,c⟩:=List.pairwise_cons.1 b;unfold dW;rw [List.find?_cons];rcases List.mem_cons.1 h with rfl|h
  ·rw [dT a];rfl
  ·have:=h1 r h;rw [qD (by omega: ¬z.Number=n)];exact mD c h a
theorem pU {l:List gW}{n:Int}(h: ∀r∈l,r.Number≠n):dW l n=rO:=by
 unfold dW;rw [List.find?_eq_none.2 (λr a=>by simpa using h r a)];rfl
def aHr (l:List gW)(b e:Int):List gW:=(l.dropWhile λr=>decide (r.Number<b)).takeWhile λr=>decide (r.Number<e)
theorem near_eq (l:List gW) (b e:Int) (m:l.length<=9223372036854775807):Fhk l b e=some (aHr l b e):=by
 unfold Fhk;have s:=aRc (λr:gW=>decide (r.Number<b)) l;have hd:=(aBi (λr:gW=>decide (r.Number<b)) l).2;have o: ∀a,(l.takeWhile λr:gW=>decide (r.Number<b)).length=a->Fhl l b 0=some (a:Int):=by
  intro a h;unfold Fhl;refine yR (λi=>(i:Int)) a (by omega) rfl (λk i hi=>?_) (λk=>?_)
  ·have f:i<l.length:=by omega
   have d:l[i]? =some l[i]:=gE f;have g:decide (l[i].Number<b)=true:=aQj (q:=λr:gW=>decide (r.Number<b)) (by rw [h];exact hi) d;simp only [zD,yD f,zT,yO d,zC,fJ f m,g]
  ·by_cases c:a<l.length
   ·have d:l[a]? =some l[a]:=gE c;have g:decide (l[a].Number<b)=false:=aRf (q:=λr:gW=>decide (r.Number<b)) (by rw [h];exact d);simp only [zD,yD c,zT,yO d,zC,g,zM]
   ·have:a=l.length:=by omega
    simp only [zD,this,yE,zM,zC]
 generalize hag:(l.takeWhile λr:gW=>decide (r.Number<b)).length=a at *
 have p: ∀n,((l.drop a).takeWhile λr:gW=>decide (r.Number<e)).length=n->Fgg l e (a:Int)=some ((a+n:Nat):Int):=by
  intro n h;have j:=aRc (λr:gW=>decide (r.Number<e)) (l.drop a);rw [h,List.length_drop]at j;unfold Fgg;refine yR (λi=>((a+i:Nat):Int)) n (by omega) rfl (λk i hi=>?_) (λk=>?_)
  ·have f:a+i<l.length:=by omega
   have d:l[a+i]? =some l[a+i]:=gE f;have g:decide (l[a+i].Number<e)=true:=aQj (q:=λr:gW=>decide (r.Number<e)) (by rw [h];exact hi) (by rw [List.getElem?_drop];exact d);simp only [zD,yD f,zT,yO d,zC,fJ f m,g];rfl
  ·by_cases c:a+n<l.length
   ·have d:l[a+n]? =some l[a+n]:=gE c;have g:decide (l[a+n].Number<e)=false:=aRf (q:=λr:gW=>decide (r.Number<e)) (l:=l.drop a) (by rw [h,List.getElem?_drop];exact d);simp only [zD,yD c,zT,yO d,zC,g,zM]
   ·have:a+n=l.length:=by omega
    simp only [zD,this,yE,zM,zC]
 rw [o a rfl,zC,p _ rfl,zC];have j:=aRc (λr:gW=>decide (r.Number<e)) (l.drop a);rw [List.length_drop]at j;have:sub' l (a:Int) ((a+((l.drop a).takeWhile λr:gW=>decide (r.Number<e)).length:Nat):Int)=some (aHr l b e):=by
  unfold sub';rw [if_pos (by omega)];unfold aHr;rw [<-hd]
  congr 1
  rw [Int.toNat_natCast,<-(aBi (λr:gW=>decide (r.Number<e)) (l.drop a)).1]
  congr 1
  rw [(aBi (λr:gW=>decide (r.Number<e)) (l.drop a)).1];omega
 rw [this,zC]
theorem aTe {l:List gW}{b e:Int}{r:gW}(h:r∈aHr l b e):r∈l:=(List.dropWhile_sublist _).mem ((List.takeWhile_sublist _).mem h)
theorem near_at {l:List gW} (i:Srt l) {b e n:Int} (h1:b<=n) (m:n<e):dW (aHr l b e) n=dW l n:=by
 have g:Srt (l.dropWhile λr=>decide (r.Number<b)):=List.Pairwise.sublist (List.dropWhile_sublist _) i;have h:Srt (aHr l b e):=List.Pairwise.sublist (List.takeWhile_sublist _) g;by_cases c: ∃r∈l,r.Number=n;obtain⟨r,d,f⟩:=c;rw [mD i d f];refine mD h ?_ f;refine aWo g (aWe d (qD (by omega))) (dT (by omega)) (λ_ _ _ k=>?_);rw [decide_eq_true_eq]at k⊢;omega;rw [pU (λr d f=>c ⟨r,aTe d,f⟩),pU (λr d f=>c ⟨r,d,f⟩)]
def jA (g:Int)(l:List gW)(A:Arr 16 gW):Arr 16 gW:=l.foldl (λA r=>if r.Number/16=g then Arr.set A (r.Number%16) r else A) A
theorem aJu {g:Int}{f:Nat}: ∀{l:List gW}{A:Arr 16 gW},(∀r∈l,¬(r.Number/16=g/\(r.Number%16).toNat=f))->(jA g l A).l[f]? =A.l[f]?
 | [],A,_=>rfl
 |y::l,A,h=>by
  have h1:=h y (List.mem_cons_self ..);unfold jA;rw [List.foldl_cons];have a:=aJu (g:=g) (f:=f) (l:=l) (A:=if y.Number/16=g then Arr.set A (y.Number%16) y else A) (λr b=>h r (List.mem_cons_of_mem _ b));refine a.trans ?_
  by_cases c:y.Number/16=g
  ·rw [if_pos c];show(A.l.set (y.Number%16).toNat y)[f]? =_;rw [List.getElem?_set_ne (λe=>h1 ⟨c,e⟩)]
  ·rw [if_neg c]
theorem aYs {g:Int}: ∀{l:List gW}{A:Arr 16 gW}{r:gW},Srt l->r∈l->0<=r.Number->r.Number/16=g->(jA g l A).l[(r.Number%16).toNat]? =some r
 |y::l,A,r,b,h,c,a=>by
  obtain⟨h1,d⟩:=List.pairwise_cons.1 b;unfold jA;rw [List.foldl_cons];rcases List.mem_cons.1 h with rfl|h
  ·rw [if_pos a];refine(aJu (g:=g) (λx e _=>?_)).trans ?_
   ·have:=h1 x e;omega
   ·show(A.l.set (r.Number%16).toNat r)[(r.Number%16).toNat]? =_;rw [List.getElem?_set_self];rw [A.h];omega
  ·exact aYs d h c a
theorem win_eq (g:Int) (l:List gW) (A:Arr 16 gW) (B:l.length<=9223372036854775807) (p: ∀r∈l,0<=r.Number/\r.Number<=4194303):
  Fga g (l,A)=some (l.dropWhile (λr=>decide (r.Number/16<=g)),jA g (l.takeWhile λr=>decide (r.Number/16<=g)) A):=by
 have u:=aRc (λr:gW=>decide (r.Number/16<=g)) l;obtain⟨s,hd⟩:=aBi (λr:gW=>decide (r.Number/16<=g)) l;unfold Fga;refine yR (λi=>(l.drop i,jA g (l.take i) A)) (l.takeWhile λr:gW=>decide (r.Number/16<=g)).length (by omega) rfl (λk i hi=>?_) (λk=>?_)
 ·have t:i<l.length:=by omega
  have b:l[i]? =some l[i]:=gE t;have m:decide (l[i].Number/16<=g)=true:=aQj (q:=λr:gW=>decide (r.Number/16<=g)) hi b;obtain⟨f,v⟩:=p _ (List.getElem_mem t);have a:decide (0<((l.drop i).length:Int))=true:=dT (by rw [List.length_drop];omega);have n:at' (l.drop i) 0=some l[i]:=yO (i:=0) (by rw [List.getElem?_drop];exact b);have d:sub' (l.drop i) 1 ((l.drop i).length:Int)=some (l.drop (i+1)):=by
   unfold sub';rw [if_pos (by rw [List.length_drop];omega)]
   congr 1
   rw [show(1:Int).toNat=1 from rfl,List.drop_drop,List.take_of_length_le];rw [List.length_drop,List.length_drop];omega
  have w:jA g (l.take (i+1)) A=if l[i].Number/16=g then Arr.set (jA g (l.take i) A) (l[i].Number%16) l[i]else jA g (l.take i) A:=by
   rw [bD b];unfold jA;rw [foldl_snoc]
  have e: ∃z,at' (jA g (l.take i) A).l (l[i].Number%16)=some z:=by
   obtain⟨j,x⟩: ∃j:Nat,l[i].Number%16=(j:Int):=⟨(l[i].Number%16).toNat,by omega⟩;rw [x,aAb];have o:j<(jA g (l.take i) A).l.length:=by rw [(jA g (l.take i) A).h];omega
   exact⟨_,gE o⟩
  obtain⟨z,y⟩:=e;simp only [zD,a,zT,n,zC,d];rw [jV f (by omega) (by decide),zC,m,zC,zT,zC,aPn f (by decide),zC,y,zC,yS,w]
  by_cases c:l[i].Number/16=g
  ·rw [if_pos c,if_pos c,zC]
  ·rw [if_neg c,if_neg c,zC]
 ·by_cases c:(l.takeWhile λr:gW=>decide (r.Number/16<=g)).length<l.length
  ·have b:l[(l.takeWhile λr:gW=>decide (r.Number/16<=g)).length]? =some l[(l.takeWhile λr:gW=>decide (r.Number/16<=g)).length]:=gE c;have m:=aRf (q:=λr:gW=>decide (r.Number/16<=g)) b;obtain⟨f,v⟩:=p _ (List.getElem_mem c);have a:decide (0<((l.drop (l.takeWhile λr:gW=>decide (r.Number/16<=g)).length).length:Int))=true:=dT (by rw [List.length_drop];omega);have n:at' (l.drop (l.takeWhile λr:gW=>decide (r.Number/16<=g)).length) 0=some l[(l.takeWhile λr:gW=>decide (r.Number/16<=g)).length]:=yO (i:=0) (by rw [List.getElem?_drop];exact b);simp only [zD,a,zT,n,zC];rw [jV f (by omega) (by decide),zC,m,zC,zM,s,hd]
  ·have a:decide (0<((l.drop (l.takeWhile λr:gW=>decide (r.Number/16<=g)).length).length:Int))=false:=qD (by rw [List.length_drop];omega);simp only [zD,a,zM,zC];rw [s,hd]
theorem rest_ok {r:gW} (o:SzR r) (h:rsM r=0):qP r/\0<=r.Number/\r.Number<=4194303:=by
 obtain⟨g,_,p,f⟩:=o;unfold rsM at h;have e:r.Frame.l.map Int.toNat=g:=by rw [f];exact aWd
 rw [e]at h;have k:dH r.Number 0 4194303=false:=by
  unfold aUc at h;split at h
  ·cases h
  ·rename_i c;simpa using c
 have d:=aPj r g k;rw [h]at d;refine⟨⟨?_,?_⟩,pF.1 k⟩
 ·intro x a;rw [f]at a;unfold en at a;obtain⟨_,q,rfl⟩:=List.mem_map.1 a;obtain⟨i,hi,rfl⟩:=List.mem_iff_getElem.1 q;have:=p i;unfold wd at this;rw [List.getD_eq_getElem?_getD,gE hi]at this;simp at this;omega
 ·intro x a;obtain⟨i,hi,rfl⟩:=List.mem_iff_getElem.1 a;rcases aO (stF r.Frame.l) r.States.l 0 with ⟨_,_,_,-,b,m⟩|⟨s,m⟩
  ·rw [m]at d;subst d;unfold stF at b;split at b
   ·cases b
   ·split at b<;>cases b
  ·exact aZa (s i _ (gE hi))
structure wB (l:List gW):Prop where
 n:l.length<=5000
 good: ∀r∈l,qP r/\0<=r.Number/\r.Number<=4194303
 srt:Srt l
theorem rs_ok {l:List gW}(b: ∀r∈l,SzR r)(h:bAa l):wB l:=⟨h.n,λr a=>rest_ok (b r a) (h.all r a),srt_of h.ord⟩
theorem aBj {l:List gW} (h:wB l) (n:Int):qP (dW l n):=by
 by_cases c: ∃r∈l,r.Number=n;obtain⟨r,a,b⟩:=c;rw [mD h.srt a b];exact(h.good r a).1;rw [pU (λr a b=>c ⟨r,a,b⟩)];exact aYa
theorem one_take {p:Param}(a:pI p=0):(tkP 0 ((gU p 0).flatMap bI) []).1=true:=by
 unfold pI at a;split at a;cases a;split at a;cases a;split at a;rename_i c;exact absurd a c;split at a;rename_i c;exact absurd a c;split at a;rename_i c;exact absurd a c;split at a;cases a;rename_i c;simpa using c
theorem one_sz {m:Map}{p:Param}(hm:m.Params=[p])(b:SzP p):SzM m:=⟨by rw [hm,List.length_singleton];omega,λ_ a=>by rw [hm]at a;rw [mS.1 a];exact b⟩
theorem one_chk {m:Map}{p:Param}(hm:m.Params=[p])(f:m.Version=0)(g:SzP p)(c:pI p=0):Fbb m=some (-1,0):=by
 have d:=jI c;have b:=one_sz hm g;have a: ∀q∈m.Params,qR q:=λq e=>by rw [hm]at e;rw [mS.1 e];exact d
 have h:=bT d.tm 0;unfold Fbb;simp only [lwi,zC,zD,yH,chkL1 m b,chkL2 m b a,chkL3 m b a];rw [hm,f,List.length_singleton];rw [show(!(decide ((0:Int)<=0)&&decide ((0:Int)<=2047)))=false from rfl,zM,show decide ((200:Int)<((1:Nat):Int))=false from rfl,zM,dI];rw [show aQf [p] 0 p=none by unfold aQf;rw [if_pos c];rfl];show aX cntF _ [p] 0 0=_;rw [aX,cntF,Go.OB.wrap_i64 (by omega) (by omega),if_neg (by omega)];show aX tkF _ [p] 0 []=_;rw [aX,tkF,if_pos (show(tkP ((0:Nat):Int) ((gU p 0).flatMap bI) []).1=true from one_take c)];rfl
theorem aWj {m:Map}{p:Param} (hm:m.Params=[p]) (a:qR p):Fd4 m=some (gU p 0):=by
 have b:=bT a.tm 0;unfold Fd4 Fi4
 repeat (first |rw [zD]|rw [yH]|rw [zC])
 rw [hm,List.length_singleton];rw [yR (r:=some (gU p 0)) (λi=>match i with |0=>([],0)|_=>(gU p 0,1)) 1 (by decide)]
 ·rfl
 ·rfl
 ·intro k i _;obtain rfl:i=0:=by omega
  simp only [zD];rw [show decide ((0:Int)<((1:Nat):Int))=true from rfl,zT,show at' [p] 0=some p from rfl,zC,aRa a.pt a.tm,zC,aK (by rw [List.length_nil];omega) (by decide),zC];rfl
 ·intro k;rfl
theorem aQo {p:Param}(b:SzP p)(a:pI p=0):Fav (Map.mk 0 [p])=some (gU p 0,0):=by
 unfold Fav;rw [one_chk rfl rfl b a,zC];simp only [zD];rw [show decide ((0:Int)≠0)=false from rfl,zM,aWj rfl (jI a),zC]
def allM:List Param->Nat->List Cell
 | [],_=>[]
 |p::l,i=>gU p (i:Int)++allM l (i+1)
theorem aOc (p:Param): ∀(l:List Param) (i:Nat),allM (l++[p]) i=allM l i++gU p ((i+l.length:Nat):Int)
 | [],i=>by simp [allM]
 |q::l,i=>by rw [List.cons_append,allM,allM,aOc p l (i+1),List.append_assoc,List.length_cons,show i+1+l.length=i+(l.length+1)by omega]
theorem aJs: ∀(l:List Param) (i:Nat),(allM l i).length=(l.map λp=>(gU p 0).length).sum
 | [],_=>rfl
 |p::l,i=>by rw [allM,List.length_append,aJs l (i+1),List.map_cons,List.sum_cons,(aAk p (i:Int)).2]
theorem aFy {p:Param}{a:Int}{c:Cell}(h:c∈gU p a):c.Param=a:=by
 obtain⟨_,_,_,-,-,rfl⟩:=aEd h;rfl
theorem aTx {l:List Param}{j:Nat}{p:Param}(h:l[j]? =some p):(allM l 0).filter (λc=>decide (c.Param=(j:Int)))=gU p (j:Int):=by
 have a: ∀(q:Param) (i:Nat),i≠j->(gU q (i:Int)).filter (λc=>decide (c.Param=(j:Int)))=[]:=by
  intro q i hi;rw [List.filter_eq_nil_iff];intro c b;rw [aFy b,decide_eq_true_eq];omega
 have none: ∀(l:List Param) (i:Nat),j<i->(allM l i).filter (λc=>decide (c.Param=(j:Int)))=[]:=by
  intro l
  induction l with
  |nil=>intro i _;rfl
  |cons q l d=>intro i hi;rw [allM,List.filter_append,a q i (by omega),d (i+1) (by omega)];rfl
 have e: ∀(l:List Param) (i k:Nat),i+k=j->l[k]? =some p->(allM l i).filter (λc=>decide (c.Param=(j:Int)))=gU p (j:Int):=by
  intro l
  induction l with
  |nil=>intro i k _ h;simp at h
  |cons q l d=>
   intro i k hk h;rw [allM,List.filter_append]
   cases k with
   |zero=>
    simp at h;subst h;obtain rfl:i=j:=by omega
    rw [none l (i+1) (by omega),List.append_nil,List.filter_eq_self];intro c b;rw [aFy b];exact dT rfl
   |succ k=>
    rw [a q i (by omega),d (i+1) k (by omega) (by simpa using h)];rfl
 exact e l 0 j (by omega) h
theorem aWf {m:Map} (e:SzM m) (hm:Fba m=some (0,0)) (f:MapOk m) {j:Nat}{p:Param} (h:m.Params[j]? =some p):Fd5 m (j:Int)=some (gU p (j:Int)):=by
 have s:(allM m.Params 0).length<=4000:=by rw [aJs];exact f.cnt
 have a:Fhc m=some (allM m.Params 0):=by
  unfold Fhc Fi1
  repeat (first |rw [zD]|rw [yH]|rw [zC])
  rw [yR (r:=some (allM m.Params 0)) (λi=>(allM (m.Params.take i) 0,(i:Int))) m.Params.length e.pl]
  ·rfl
  ·rfl
  ·intro k i hi;have b:m.Params[i]? =some m.Params[i]:=gE hi;have t:=f.all _ (List.getElem_mem hi);have o:(allM (m.Params.take (i+1)) 0).length<=182400:=by
    rw [aJs];have: ∀l:List Param,(∀q∈l,qR q)->(l.map λp=>(gU p 0).length).sum<=l.length*912:=by
     intro l
     induction l with
     |nil=>intro _;simp
     |cons q l u=>
      intro g;rw [List.map_cons,List.sum_cons,List.length_cons];have:=u λz e=>g z (List.mem_cons_of_mem _ e)
      have:=bT (g q (List.mem_cons_self ..)).tm 0;omega
    have v:=this (m.Params.take (i+1)) λq g=>f.all q (List.mem_of_mem_take g)
    rw [List.length_take]at v;have:=f.n;have:min (i+1) m.Params.length<=200:=by omega
    generalize min (i+1) m.Params.length=z at *
    omega
   have d:allM (m.Params.take (i+1)) 0=allM (m.Params.take i) 0++gU m.Params[i] (i:Int):=by
    rw [bD b,aOc,List.length_take,show 0+min i m.Params.length=i by omega]
   rw [d,List.length_append]at o;simp only [zD,yD hi,zT,yO b,zC,aIu t.pt t.tm];rw [aK (by omega) (by decide),zC,fJ hi e.pl,d]
  ·intro k;simp only [zD,yE,zM,List.take_length]
 unfold Fd5 Fio;rw [hm,zC];simp only [zD];rw [show decide ((0:Int)≠0)=false from rfl,zM,a,zC,zC];unfold Fje;rw [yR (r:=some (gU p (j:Int))) (λi=>(((allM m.Params 0).take i).filter (λc=>decide (c.Param=(j:Int))),(i:Int))) (allM m.Params 0).length (by omega)]
 ·rfl
 ·rfl
 ·intro k i hi;have b:(allM m.Params 0)[i]? =some (allM m.Params 0)[i]:=gE hi;have w:(((allM m.Params 0).take i).filter (λc=>decide (c.Param=(j:Int)))).length<=4000:=Nat.le_trans (List.length_filter_le _ _) (by rw [List.length_take];omega);simp only [zD,yD hi,zT,yO b,zC,fJ hi (by omega)];rw [aK (by rw [List.length_singleton];omega) (by decide),zC,bD b,List.filter_append]
  by_cases c:(allM m.Params 0)[i].Param=(j:Int)
  ·rw [dT c,zT,zC,show [(allM m.Params 0)[i]].filter (λc=>decide (c.Param=(j:Int)))=[(allM m.Params 0)[i]]by simp [c]]
  ·rw [qD c,zM,zC,show [(allM m.Params 0)[i]].filter (λc=>decide (c.Param=(j:Int)))=[]by simp [c],List.append_nil]
 ·intro k;simp only [zD,yE,zM,List.take_length,aTx h]
def bJ (m:Map)(p:Param)(rs:List gW)(base:Int)(c:Cell):fE:=fE.mk (bK p base c) (aLf m p (dW rs) base c.Places).1 (aLf m p (dW rs) base c.Places).2
def aMt (m:Map)(p:Param)(rs:List gW)(cs:List Cell)(g:Int):List fE:=cs.map (bJ m p rs (g*16))
def kZ (m:Map)(p:Param)(rs:List gW)(cs:List Cell)(n0:Int)(k:Nat):List fE:=(List.range k).flatMap λ(j:Nat)=>aMt m p rs cs (n0+(j:Int))
theorem aCj (m:Map)(p:Param)(rs:List gW)(cs:List Cell)(n0:Int)(k:Nat):kZ m p rs cs n0 (k+1)=kZ m p rs cs n0 k++aMt m p rs cs (n0+(k:Int)):=by
 unfold kZ;rw [List.range_succ,List.flatMap_append,List.flatMap_singleton]
theorem rE (m:Map)(p:Param)(rs:List gW)(cs:List Cell)(n0:Int): ∀k,(kZ m p rs cs n0 k).length=k*cs.length
 |0=>by simp [kZ]
 |k+1=>by rw [aCj,List.length_append,rE m p rs cs n0 k,Nat.add_mul,Nat.one_mul];unfold aMt;rw [List.length_map]
theorem cells_pi (p:Param) (a:Int):gU p a=(gU p 0).map λc=>Cell.mk a c.Index c.Frame c.Places:=by
 apply List.ext_getElem?;intro i;rw [List.getElem?_map];have h:(gU p a).length=(gU p 0).length:=(aAk p a).2;by_cases hi:i<(gU p 0).length;have b:(gU p 0)[i]? =some (gU p 0)[i]:=gE hi;have h1:(gU p a)[i]? =some ((gU p a)[i]'(by omega)):=gE (by omega);obtain⟨s,e,a2,-⟩:=aCe (dM p) b;obtain⟨f,d,g,-⟩:=aCe (dM p) h1;rw [e]at d;obtain rfl:s=f:=by simpa using d
 rw [b,h1,a2,g];rfl;rw [List.getElem?_eq_none (by omega),List.getElem?_eq_none (by omega)];rfl
theorem sec_pi (m:Map)(p:Param)(rs:List gW)(a g:Int):aMt m p rs (gU p a) g=aMt m p rs (gU p 0) g:=by
 rw [cells_pi p a];unfold aMt;rw [List.map_map];rfl
theorem jC {p:Param}(a:qR p){b:Int}{c:Cell}(d:c∈gU p b):c.Places.length<=8/\(∀x∈c.Places,aGa x)/\sF c.Places=(nD p.Parts).toNat:=by
 obtain⟨s,t,_,h1,e,rfl⟩:=aEd d;have:=aUm a s (t:Int);exact⟨this.2,λx f=>place_ok a h1 e f,this.1⟩
def aLz (rs:List gW)(n0:Int):Nat->List gW
 |0=>rs
 |j+1=>(aLz rs n0 j).dropWhile λr=>decide (r.Number/16<=n0+(j:Int))
theorem aFk (rs:List gW)(n0:Int): ∀j,(aLz rs n0 j).Sublist rs
 |0=>List.Sublist.refl _
 |j+1=>(List.dropWhile_sublist _).trans (aFk rs n0 j)
theorem aTw {rs:List gW}{n0:Int}{r:gW}(a:r∈rs): ∀j:Nat,n0+(j:Int)<=r.Number/16->r∈aLz rs n0 j
 |0,_=>a
 |j+1,h=>aWe (aTw a j (by omega)) (qD (by omega))
theorem win_at {rs:List gW} (h:wB rs) {n0:Int} (j:Nat) (q:0<=n0+(j:Int)) {f:Int} (f0:0<=f) (f1:f<=15):
  at' (jA (n0+(j:Int)) ((aLz rs n0 j).takeWhile λr=>decide (r.Number/16<=n0+(j:Int))) (Arr.rep 16 rO)).l f=some (dW rs ((n0+(j:Int))*16+f)):=by
 have e:Srt (aLz rs n0 j):=List.Pairwise.sublist (aFk rs n0 j) h.srt;have m:Srt ((aLz rs n0 j).takeWhile λr=>decide (r.Number/16<=n0+(j:Int))):=List.Pairwise.sublist (List.takeWhile_sublist _) e;obtain⟨i,rfl⟩: ∃i:Nat,f=(i:Int):=⟨f.toNat,by omega⟩;rw [aAb]
 by_cases c: ∃r∈rs,r.Number=(n0+(j:Int))*16+(i:Int)
 ·obtain⟨r,d,n⟩:=c;rw [mD h.srt d n];have hm:r∈(aLz rs n0 j).takeWhile λr=>decide (r.Number/16<=n0+(j:Int)):=by
   refine aWo e (aTw d j (by omega)) (dT (by omega)) (λ_ _ _ o=>?_);rw [decide_eq_true_eq]at o⊢;omega
  have:=aYs (g:=n0+(j:Int)) (A:=Arr.rep 16 rO) m hm (by omega) (by omega);rw [show(r.Number%16).toNat=i by omega]at this;exact this
 ·rw [pU (λr d n=>c ⟨r,d,n⟩)];rw [aJu (λr d o=>?_)]
  ·show(List.replicate 16 rO)[i]? =some rO;rw [List.getElem?_replicate,if_pos (by omega)]
  ·have k:r∈rs:=(aFk rs n0 j).mem ((List.takeWhile_sublist _).mem d);exact c ⟨r,k,by have:=(h.good r k).2;omega⟩
theorem aNq {m:Map}{p:Param}{rs:List gW} (t:SzP p) (o:pI p=0) (h:wB rs) {n0 c:Int} (k:Nat) (A:0<=n0) (hk:n0+(k:Int)=c+1) (h1:c<=262143) (q:k*(gU p 0).length<=20000):
  Fb3 m p (gU p 0) rs n0 c=some (kZ m p rs (gU p 0) n0 k):=by
 have d:=jI o;have u:(gU p 0).length<=912:=bT d.tm 0;unfold Fb3 Fjk;rw [yR (r:=some (kZ m p rs (gU p 0) n0 k)) (λj=>(aLz rs n0 j,kZ m p rs (gU p 0) n0 j,n0+(j:Int))) k (by omega)]
 ·rfl
 ·show(rs,[],n0)=(rs,kZ m p rs (gU p 0) n0 0,n0+((0:Nat):Int));rw [Int.natCast_zero,Int.add_zero];rfl
 ·intro e j _;have a:=aFk rs n0 j;have v:=a.length_le;have C:=h.n;have f:=rE m p rs (gU p 0) n0 j;have s:j*(gU p 0).length+(gU p 0).length<=20000:=by
   have:(j+1)*(gU p 0).length<=k*(gU p 0).length:=Nat.mul_le_mul_right _ (by omega);rw [Nat.add_mul,Nat.one_mul]at this;omega
  simp only [zD];rw [dT (by omega:n0+(j:Int)<=c),zT,win_eq _ _ _ (by omega) (λr w=>(h.good r (a.mem w)).2),zC];simp only;rw [Go.OB.wrap_i64 (n:=(n0+(j:Int))*16) (by omega) (by omega),aRt d (by omega) (by omega) 0,zC];have y:Fec m p (gU p 0) ((aLz rs n0 j).dropWhile λr=>decide (r.Number/16<=n0+(j:Int))) (jA (n0+(j:Int)) ((aLz rs n0 j).takeWhile λr=>decide (r.Number/16<=n0+(j:Int))) (Arr.rep 16 rO)) ((gU p 0).map (bK p ((n0+(j:Int))*16))) ((gU p 0).length:Int) (kZ m p rs (gU p 0) n0 j,0)=some (aLz rs n0 (j+1),kZ m p rs (gU p 0) n0 (j+1)):=by
   unfold Fec;refine yR (λi=>(kZ m p rs (gU p 0) n0 j++((gU p 0).take i).map (bJ m p rs ((n0+(j:Int))*16)),(i:Int))) (gU p 0).length (by omega) ?_ (λe i hi=>?_) (λe=>?_)
   ·show _=(kZ m p rs (gU p 0) n0 j++[],_);rw [List.append_nil];rfl
   ·have g:(gU p 0)[i]? =some (gU p 0)[i]:=gE hi;obtain⟨c1,c2,c3⟩:=jC d (List.getElem_mem hi);have z:at' ((gU p 0).map (bK p ((n0+(j:Int))*16))) (i:Int)=some (bK p ((n0+(j:Int))*16) (gU p 0)[i]):=yO (by rw [List.getElem?_map,g];rfl);simp only [zD,yD hi,zT,yO g,zC];rw [read_eq m p (gU p 0)[i] _ (dW rs) ((n0+(j:Int))*16) t o c1 (λx l=>⟨c2 x l,aBj h _,win_at h j (by omega) (c2 x l).f0 (c2 x l).f1⟩) c3,zC];rw [z,zC,aK (by rw [List.length_append,f,List.length_map,List.length_take,List.length_singleton];omega) (by decide),zC,fJ hi (by omega),bD g,List.map_append,List.map_singleton,<-List.append_assoc];rfl
   ·simp only [zD,yE,zM,List.take_length];rw [aCj];rfl
  have b:(Arr.rep 16 (gW.mk 0 (Arr.rep 64 0:Arr 64 Int) (Arr.rep 64 0:Arr 64 Int) false 0 false):Arr 16 gW)=Arr.rep 16 rO:=rfl;rw [b,y,zC];rw [Go.OB.wrap_i64 (n:=n0+(j:Int)+1) (by omega) (by omega),show n0+(j:Int)+1=n0+((j+1:Nat):Int)by omega]
 ·intro e;simp only [zD];rw [qD (by omega),zM]
theorem samples_5 {m:Map}{p:Param}{rs:List gW} (w:SzP p) (s:pI p=0) (h:wB rs) {a:Int} (t:at' m.Params a=some p) {n0 b:Int} (k:Nat) (D:0<=n0) (hk:n0+(k:Int)=b+1) (h1:b<=262143) (u:k*(gU p 0).length<=20000):
  Fea m a rs (gU p a) (b*16) (n0*16,[])=some (kZ m p rs (gU p 0) n0 k):=by
 have c:=jI s;have y:(gU p 0).length<=912:=bT c.tm 0;have z:(gU p a).length=(gU p 0).length:=(aAk p a).2;unfold Fea;refine yR (λj=>((n0+(j:Int))*16,kZ m p rs (gU p 0) n0 j)) k (by omega) ?_ (λd j _=>?_) (λd=>?_)
 ·show _=((n0+((0:Nat):Int))*16,_);rw [Int.natCast_zero,Int.add_zero];rfl
 ·have F:=h.n;have e:=rE m p rs (gU p 0) n0 j;have v:j*(gU p 0).length+(gU p 0).length<=20000:=by
   have:(j+1)*(gU p 0).length<=k*(gU p 0).length:=Nat.mul_le_mul_right _ (by omega);rw [Nat.add_mul,Nat.one_mul]at this;omega
  simp only [zD];rw [dT (by omega:(n0+(j:Int))*16<=b*16),zT,t,zC,times_5 c (by omega) (by omega) a,zC,Go.OB.wrap_i64 (n:=(n0+(j:Int))*16+16) (by omega) (by omega),near_eq _ _ _ (by omega),zC];have f:(aHr rs ((n0+(j:Int))*16) ((n0+(j:Int))*16+16)).length<=9223372036854775807:=by
   have:=((List.takeWhile_sublist (λr:gW=>decide (r.Number<(n0+(j:Int))*16+16)) (l:=rs.dropWhile λr=>decide (r.Number<(n0+(j:Int))*16))).trans (List.dropWhile_sublist _)).length_le;show((rs.dropWhile λr=>decide (r.Number<(n0+(j:Int))*16)).takeWhile λr=>decide (r.Number<(n0+(j:Int))*16+16)).length<=_;omega
  have A:Fez m (gU p a) ((n0+(j:Int))*16) ((gU p a).map (bK p ((n0+(j:Int))*16))) (aHr rs ((n0+(j:Int))*16) ((n0+(j:Int))*16+16)) (0,kZ m p rs (gU p 0) n0 j)=some (kZ m p rs (gU p 0) n0 (j+1)):=by
   unfold Fez;refine yR (λi=>((i:Int),kZ m p rs (gU p 0) n0 j++((gU p a).take i).map (bJ m p rs ((n0+(j:Int))*16)))) (gU p a).length (by omega) ?_ (λd i hi=>?_) (λd=>?_)
   ·show _=(_,kZ m p rs (gU p 0) n0 j++[]);rw [List.append_nil];rfl
   ·have g:(gU p a)[i]? =some (gU p a)[i]:=gE hi;obtain⟨c1,c2,c3⟩:=jC c (List.getElem_mem hi);have o:at' m.Params (gU p a)[i].Param=some p:=by rw [aFy (List.getElem_mem hi)];exact t
    have B:at' ((gU p a).map (bK p ((n0+(j:Int))*16))) (i:Int)=some (bK p ((n0+(j:Int))*16) (gU p a)[i]):=yO (by rw [List.getElem?_map,g];rfl);simp only [zD,yD hi,zT,yO g,zC];rw [sample_eq m p (gU p a)[i] _ (dW rs) ((n0+(j:Int))*16) w s c1 (by omega) (by omega) f (λr C=>(h.good r (aTe C)).1)
     (λx q=>⟨c2 x q,aBj h _,near_at h.srt (by have:=(c2 x q).f0;omega) (by have:=(c2 x q).f1;omega)⟩) c3 o,zC]
    rw [B,zC,aK (by rw [List.length_append,e,List.length_map,List.length_take,List.length_singleton];omega) (by decide),zC,fJ hi (by omega),bD g,List.map_append,List.map_singleton,<-List.append_assoc];rfl
   ·simp only [zD,yE,zM,List.take_length];rw [aCj,<-sec_pi m p rs a];rfl
  rw [A,zC]
  congr 2
  omega
 ·simp only [zD];rw [qD (by omega),zM]
def dA (rs:List gW):Int:=match rs.getLast? with
 |some r=>r.Number/16
 |none=>0
def dC (rs:List gW):Int:=match rs.head? with
 |some r=>r.Number/16
 |none=>0
def kL (rs:List gW):Nat:=(dA rs-dC rs+1).toNat
def jQ (m:Map)(p:Param)(rs:List gW):Series×Bool:=if rs=[]then(Series.mk 1 [],true)else if 20000<(kL rs:Int)*(gU p 0).length+1 then(Series.mk 0 [],false)else(Series.mk 1 (kZ m p rs (gU p 0) (dC rs) (kL rs)++[fE.mk ((dA rs+1)*1024) 0 0]),true)
theorem ends {rs:List gW} (h:wB rs) (c:rs≠[]): ∃a b,at' rs 0=some a/\at' rs (IntKind.i64.wrap ((rs.length:Int)-1))=some b/\dC rs=a.Number/16/\dA rs=b.Number/16/\0<=a.Number/\b.Number<=4194303/\a.Number<=b.Number:=by
 have d:=h.n
 cases rs with
 |nil=>exact absurd rfl c
 |cons a l=>
  have e:(a::l)[l.length]? =some ((a::l)[l.length]'(by simp)):=gE (by simp);refine⟨a,(a::l)[l.length]'(by simp),rfl,?_,rfl,?_,(h.good a (List.mem_cons_self ..)).2.1,(h.good _ (List.getElem_mem (by simp))).2.2,?_⟩
  ·rw [List.length_cons]at d⊢;rw [wrap_i64 (by omega) (by omega),show((l.length+1:Nat):Int)-1=(l.length:Int)by omega];exact yO e
  ·unfold dA;rw [List.getLast?_eq_getElem?,List.length_cons,show l.length+1-1=l.length by omega,e]
  ·cases l with
   |nil=>exact Int.le_refl _
   |cons b l=>
    have h1:=(List.pairwise_cons.1 h.srt).1 ((a::b::l)[(b::l).length]'(by simp)) (by
     show(b::l)[l.length]'(by simp)∈b::l;exact List.getElem_mem _)
    omega
theorem made_5 {m:Map}{p:Param}{rs:List gW}(s:SzP p)(o:pI p=0)(h:wB rs){f:Int}(t:at' m.Params f=some p)(d:Fd5 m f=some (gU p f)):Fg8 m f rs=some (jQ m p rs):=by
 have u:=jI o;have v:(gU p 0).length<=912:=bT u.tm 0;have i:(gU p f).length=(gU p 0).length:=(aAk p f).2;unfold Fg8 jQ
 repeat (first |rw [zD]|rw [yH]|rw [zC])
 rw [yS]
 by_cases g:rs=[]
 ·subst g;rfl
 have q:rs.length≠0:=λe=>g (List.eq_nil_of_length_eq_zero e)
 rw [if_neg (by omega),if_neg g,d,zC];obtain⟨_,_,w,x,j,k,a0,_,_⟩:=ends h g;have z:(kL rs:Int)=dA rs-dC rs+1:=by unfold kL;rw [j,k];omega
 rw [w,zC,jV a0 (by omega) (by decide),zC,zD,zD,zD,x,zC,jV (by omega) (by omega) (by decide),zC,<-j,<-k];simp only [zD];have r:0<=dC rs/\dC rs<=dA rs/\dA rs<=262143:=by rw [j,k];omega
 have l:0<=(kL rs:Int)*((gU p 0).length:Int)/\(kL rs:Int)*((gU p 0).length:Int)<=262144*912:=by
  refine⟨Int.mul_nonneg (by omega) (by omega),?_⟩;exact Int.mul_le_mul (by omega) (by omega) (by omega) (by omega)
 rw [wrap_i64 (n:=dC rs*16) (by omega) (by omega),wrap_i64 (n:=dA rs*16) (by omega) (by omega),wrap_i64 (n:=dA rs*16-dC rs*16) (by omega) (by omega),jV (by omega) (by omega) (by decide),zC,
  show(dA rs*16-dC rs*16)/16=dA rs-dC rs by omega,wrap_i64 (n:=dA rs-dC rs+1) (by omega) (by omega),<-z,i,wrap_i64 (n:=(kL rs:Int)*((gU p 0).length:Int)) (by omega) (by omega),wrap_i64 (n:=(kL rs:Int)*((gU p 0).length:Int)+1) (by omega) (by omega),yS]
 by_cases c:20000<(kL rs:Int)*((gU p 0).length:Int)+1
 ·rw [if_pos c,if_pos c]
 rw [if_neg c,if_neg c];have hk:kL rs*(gU p 0).length<=20000:=by
  have:((kL rs*(gU p 0).length:Nat):Int)=(kL rs:Int)*((gU p 0).length:Int):=Int.natCast_mul _ _;omega
 rw [samples_5 s o h t (kL rs) r.1 (by omega) r.2.2 hk,zC,wrap_i64 (n:=dA rs*16+16) (by omega) (by omega),wrap_i64 (n:=64*(dA rs*16+16)) (by omega) (by omega),aK (by rw [rE,List.length_singleton];omega) (by decide),zC,
  show(64:Int)*(dA rs*16+16)=(dA rs+1)*1024 by omega]
theorem from_l {m:Map}{s:Str}{p:Param}{rs:List gW}(hm:Fax m=some (0,0))(f:m.Params.length<=9223372036854775807)(hi:0<=qK m s)(g:m.Params[(qK m s).toNat]? =some p)(t:SzP p)(j:pI p=0)(h:wB rs)(w:Faq rs=some 0):
  Fcn m s rs=some ((jQ m p rs).1,if (jQ m p rs).2=true then 0 else 3):=by
 have x:=jI j;have y:(gU p 0).length<=912:=bT x.tm 0;have k:at' m.Params (qK m s)=some p:=by
  obtain⟨i,l⟩: ∃i:Nat,qK m s=(i:Int):=⟨(qK m s).toNat,by omega⟩;rw [l]at g⊢;rw [Int.toNat_natCast]at g;exact yO g
 unfold Fcn jQ;rw [hm,zC];simp only [zD];rw [show decide ((0:Int)≠0)=false from rfl,zM,par_idxR m f s,zC,qD (by omega),zM,w,zC,show decide ((0:Int)≠0)=false from rfl,zM,yS]
 by_cases d:rs=[]
 ·subst d;rfl
 have u:rs.length≠0:=λe=>d (List.eq_nil_of_length_eq_zero e)
 rw [if_neg (by omega),if_neg d,k,zC,aQo t j,zC];obtain⟨_,_,z,A,o,q,a0,_,_⟩:=ends h d;have C:(kL rs:Int)=dA rs-dC rs+1:=by unfold kL;rw [o,q];omega
 rw [z,zC,jV a0 (by omega) (by decide),zC,A,zC,jV (by omega) (by omega) (by decide),zC,<-o,<-q];have v:0<=dC rs/\dC rs<=dA rs/\dA rs<=262143:=by rw [o,q];omega
 have r:0<=(kL rs:Int)*((gU p 0).length:Int)/\(kL rs:Int)*((gU p 0).length:Int)<=262144*912:=by
  refine⟨Int.mul_nonneg (by omega) (by omega),?_⟩;exact Int.mul_le_mul (by omega) (by omega) (by omega) (by omega)
 rw [wrap_i64 (n:=dA rs-dC rs) (by omega) (by omega),wrap_i64 (n:=dA rs-dC rs+1) (by omega) (by omega),<-C,wrap_i64 (n:=(kL rs:Int)*((gU p 0).length:Int)) (by omega) (by omega),wrap_i64 (n:=(kL rs:Int)*((gU p 0).length:Int)+1) (by omega) (by omega),yS]
 by_cases c:20000<(kL rs:Int)*((gU p 0).length:Int)+1
 ·rw [if_pos c,if_pos c];rfl
 rw [if_neg c,if_neg c];have hk:kL rs*(gU p 0).length<=20000:=by
  have:((kL rs*(gU p 0).length:Nat):Int)=(kL rs:Int)*((gU p 0).length:Int):=Int.natCast_mul _ _;omega
 rw [aNq t j h (kL rs) v.1 (by omega) v.2.2 hk,zC,wrap_i64 (n:=dA rs+1) (by omega) (by omega),wrap_i64 (n:=(dA rs+1)*1024) (by omega) (by omega),aK (by rw [rE,List.length_singleton];omega) (by decide),zC];rfl
structure aQ (b:Book):Prop where
 mp:MapOk b.Map
 ml:Fax b.Map=some (0,0)
 m2:Fba b.Map=some (0,0)
 rs:wB b.Rests
 rl:Faq b.Rests=some 0
 sn:b.Sources.length<=30
 src: ∀(i:Nat) (x:fD),b.Sources[i]? =some x->aDe b i x=0
def bV (b:Book)(x:fD):Param:=(b.Map.Params[(qK b.Map x.Param).toNat]?).getD (Param.mk [] 0 [] 0 0 0 0 [])
theorem aYi {b:Book}{i:Nat}{x:fD}(h:aDe b i x=0):0<=qK b.Map x.Param:=by
 unfold aDe at h;split at h;cases h;split at h;cases h;split at h;cases h;omega
theorem aBz {b:Book}{x:fD} (h:0<=qK b.Map x.Param):b.Map.Params[(qK b.Map x.Param).toNat]? =some (bV b x)/\at' b.Map.Params (qK b.Map x.Param)=some (bV b x):=by
 rcases aEp (λy:Param=>decide (y.Name=x.Param)) b.Map.Params 0 with ⟨h1,-⟩|⟨j,y,h1,a,-,-⟩
 ·have:qK b.Map x.Param= -1:=h1;omega
 ·have e:qK b.Map x.Param=(j:Int):=by rw [Nat.zero_add]at h1;exact h1
  have c:bV b x=y:=by unfold bV;rw [e,Int.toNat_natCast,a];rfl
  rw [e,Int.toNat_natCast,c];exact⟨a,yO a⟩
def aDk (l:List gW)(fin:Option Int):Option Int:=if 5000<l.length then some 3 else dI rsF (if aPs l=true then some 10 else fin) l 0
theorem aFa (l:List gW):(∃v:Int,v≠0/\ ∀fin,aDk l fin=some v)\/((∀fin,aDk l fin=fin)/\bAa l):=by
 unfold aDk
 by_cases a:5000<l.length
 ·exact .inl ⟨3,by decide,λfin=>by rw [if_pos a]⟩
 rcases aO rsF l 0 with ⟨j,x,v,h1,b,d⟩|⟨h1,d⟩
 ·unfold rsF at b;split at b
  ·cases b
  ·rename_i c;cases b;exact .inl ⟨rsM x,c,λfin=>by rw [if_neg a,d]⟩
 ·cases ho:aPs l with
  |true=>exact .inl ⟨10,by decide,λfin=>by rw [if_neg a,d];rfl⟩
  |false=>
   refine .inr ⟨λfin=>by rw [if_neg a,d];rfl,by omega,?_,ho⟩;intro _ e;obtain⟨j,f,rfl⟩:=List.mem_iff_getElem.1 e;have:=h1 j _ (gE f);unfold rsF at this;split at this
   ·assumption
   ·cases this
theorem fault_K (l:List gW)(fin:Option Int):(gB (aGn l) λx=>gJ (decide (x≠0)) (some x) fin)=aDk l fin:=by
 have e:aGn l=aDk l (some 0):=rfl;rw [e];rcases aFa l with ⟨_,h1,a⟩|⟨h1,-⟩
 ·rw [a,a,zC,dT h1];rfl
 ·rw [h1,h1,zC];rfl
def aVr (b:Book):Nat->fD->Option (Option Int):=λi x=>if aDe b i x=0 then none else some (some (aDe b i x))
theorem bookL1 {b:Book}(a:SzB b)(fin:Option Int):Fgh b (λ_=>fin) (b.Sources.length:Int) 0=dI (aVr b) fin b.Sources 0:=by
 unfold Fgh;refine xQ b.Sources _ _ a.sl (λk i x h1 c=>?_) (λk=>by simp only [zD,yE,zM]);simp only [zD,yD c,zT,src_l a h1,zC,fJ c a.sl];rw [yS];unfold aVr;by_cases e:aDe b i x=0;rw [if_neg (by simpa using e),if_pos e];rw [if_pos e,if_neg e]
theorem bookR1 {b:Book} (g:SzB b) (fin:Option Int):Ff5 b (λ_=>fin) 0=dI (aVr b) fin b.Sources 0:=by
 unfold Ff5;refine xQ b.Sources _ _ g.sl (λk i x h1 q=>?_) (λk=>by simp only [zD,yE,zM]);have r:=g.ss x (qS h1);have s:=g.sl;simp only [zD,yH,yD q,zT,yO h1,zC,fJ q g.sl,aKs x.Track r.tr];unfold aVr aDe
 cases aGl x.Track with
 |false=>rfl
 |true=>
  simp only [Bool.not_true,zM,Bool.true_eq_false,if_false];unfold Fil;have h:(b.Sources.take i).length=i:=by rw [List.length_take];omega
  rw [jL (b.Sources.take i) (λy=>decide (y.Track=x.Track)) (some 5) (gB (Fby b.Map x.Param) λn=>gJ (decide (n<0)) (some 4) (gJ (decide (1<(x.Meaning.length:Int))) (some 2)
    (gJ (decide ((x.Meaning.length:Int)=1)) (gB (at' x.Meaning 0) λo=>gB (Fd3 o) λm=>gJ (decide (m≠0)) (some m) (gB (Fbw x.Long 0 1099511627776) λa=>gJ a (some 9) (k ((i+1:Nat):Int)))) (gB (Fbw x.Long 0 1099511627776) λa=>gJ a (some 9) (k ((i+1:Nat):Int)))))) (by omega)
   (λt j y g1 g2=>by
    rw [h]at g2;have p:b.Sources[j]? =some y:=by rw [List.getElem?_take]at g1;rw [if_pos g2]at g1;exact g1
    simp only [zD,yD g2,zT,yO p,zC,fJ g2 (by omega)])
   (λt=>by simp only [zD,h,yE,zM])]
  cases((b.Sources.take i).any λy=>decide (y.Track=x.Track))with
  |true=>rfl
  |false=>
   simp only [zM,Bool.false_eq_true,if_false];rw [par_5 b.Map g.mp.pl,zC,yS]
   by_cases c4:qK b.Map x.Param<0
   ·rw [if_pos c4,if_pos c4];rfl
   rw [if_neg c4,if_neg c4,yS]
   by_cases c2:1<x.Meaning.length
   ·rw [if_pos c2,if_pos (by omega)];rfl
   rw [if_neg c2,if_neg (by omega),out7];simp only [zC];have f: ∀z,gJ (decide (x.Long<0)||decide (1099511627776<x.Long)) (some (9:Int)) z=if dH x.Long 0 1099511627776=true then some 9 else z:=by
    intro z;show gJ (dH x.Long 0 1099511627776) _ _=_
    cases dH x.Long 0 1099511627776<;>rfl
   rw [f];unfold aKr;rcases hm:x.Meaning with _|⟨c,_|⟨_,_⟩⟩
   ·cases dH x.Long 0 1099511627776<;>rfl
   ·rw [show decide ((([c]:List fB).length:Int)=1)=true from rfl,zT,show at' [c] 0=some c from rfl,zC,cal_5 c (r.ms c (by rw [hm];exact List.mem_cons_self ..)),aIw,zC,yS]
    by_cases e:aGp c=0
    ·simp only [e,ne_eq,not_true,if_false]
     cases dH x.Long 0 1099511627776<;>rfl
    ·simp only [e,ne_eq,not_false_eq_true,if_true,if_false]
   ·rw [hm]at c2;simp at c2
def sN (b:Book):Bool:=b.Sources.any λx=> !(jQ b.Map (bV b x) b.Rests).2
theorem aRp {b:Book} (a:SzB b): ∃e,Fau b=some e/\Fjo b=some e/\(e=0->aQ b/\sN b=false):=by
 obtain⟨v,m1,m2,m3⟩:=map_two a.mp;unfold Fau Fjo;rw [m1,m2,zC,zC];obtain⟨_,v2⟩:=v;simp only [zD,yH]
 by_cases c0: ¬v2=0
 ·rw [dT c0];exact⟨v2,rfl,rfl,λh=>absurd h c0⟩
 have c0:v2=0:=by omega
 subst c0;obtain⟨rfl,o⟩:=m3 rfl;rw [show decide ((0:Int)≠0)=false from rfl,zM,zM]
 by_cases A:30<b.Sources.length
 ·rw [dT (show(30:Int)<(b.Sources.length:Int)by omega),zT,zT];exact⟨3,rfl,rfl,λh=>by cases h⟩
 rw [qD (show¬(30:Int)<(b.Sources.length:Int)by omega),zM,zM,bookL1 a,bookR1 a];rcases aO (aVr b) b.Sources 0 with ⟨_,x,v,h1,d,g⟩|⟨h1,g⟩
 ·rw [g,g];unfold aVr at d;split at d
  ·cases d
  ·rename_i c;cases d;exact⟨_,rfl,rfl,λh=>absurd h c⟩
 rw [g,g,fault_5 b.Rests a.rl a.rs];have l: ∀(i:Nat) (x:fD),b.Sources[i]? =some x->aDe b i x=0:=by
  intro i x hi;have:=h1 i x hi;rw [Nat.zero_add]at this;unfold aVr at this;split at this
  ·assumption
  ·cases this
 have B:(gJ (decide (5000<(b.Rests.length:Int))) (some 3) (Ffs b (λ_=>Fed b (λ_=>Fa8 b (λ_=>some 0) (b.Sources.length:Int) 0) 1) (b.Rests.length:Int) 0))=aDk b.Rests (Fa8 b (λ_=>some 0) (b.Sources.length:Int) 0):=by
  unfold aDk;rw [yS]
  by_cases c:5000<b.Rests.length
  ·rw [if_pos c,if_pos (by omega)]
  rw [if_neg c,if_neg (by omega)];unfold Ffs;refine xQ b.Rests rsF _ a.rl (λk i x h1 d=>?_) (λk=>?_)
  ·have C:=a.rs x (qS h1);simp only [zD,yD d,zT,yO h1,zC,fJ d a.rl,bAq C];rw [yS];unfold rsF
   by_cases e:rsM x=0
   ·rw [if_neg (by simpa using e),if_pos e]
   ·rw [if_pos e,if_neg e]
  ·simp only [zD,yE,zM];have D:=a.rl;unfold Fed;rw [aGs b.Rests (λp=>decide (p.2.Number<=p.1.Number)) (some 10) (Fa8 b (λ_=>some 0) (b.Sources.length:Int) 0) a.rl]
   ·unfold aPs
    cases(uK b.Rests).any λp=>decide (p.2.Number<=p.1.Number)<;>rfl
   ·intro k i x _ h1 d g;simp only [zD,yD g,zT,yO d,zC,aVg (show i<=9223372036854775806 by omega),yO h1,fJ g a.rl]
   ·intro k _ _;simp only [zD];rw [qD (by omega),zM]
 rw [B,fault_K];rcases aFa b.Rests with ⟨v,g1,g2⟩|⟨g1,g2⟩
 ·rw [g2,g2];exact⟨v,rfl,rfl,λh=>absurd h g1⟩
 rw [g1,g1];have q:=rs_ok a.rs g2;have r:Faq b.Rests=some 0:=by
  rw [fault_l b.Rests a.rl a.rs];exact g1 (some 0)
 have m: ∀(i:Nat) (x:fD),b.Sources[i]? =some x->SzP (bV b x)/\pI (bV b x)=0/\0<=qK b.Map x.Param:=by
  intro i x hi;have z:=aYi (l i x hi);have hm:=qS (aBz z).1;exact⟨a.mp.ps _ hm,(o.all _ hm).ck,z⟩
 have E:Fa8 b (λ_=>some 0) (b.Sources.length:Int) 0=gJ (sN b) (some 3) (some 0):=by
  unfold Fa8;refine jL b.Sources (λx=> !(jQ b.Map (bV b x) b.Rests).2) (some 3) (some 0) a.sl (λk i x h1 d=>?_) (λk=>by simp only [zD,yE,zM]);obtain⟨u,w,t⟩:=m i x h1;simp only [zD,yD d,zT,yO h1,zC,fJ d a.sl,from_l m1 a.mp.pl t (aBz t).1 u w q r]
  cases(jQ b.Map (bV b x) b.Rests).2<;>rfl
 have F:Fg7 b (λ_=>some 0) 0=gJ (sN b) (some 3) (some 0):=by
  unfold Fg7;refine jL b.Sources (λx=> !(jQ b.Map (bV b x) b.Rests).2) (some 3) (some 0) a.sl (λk i x h1 d=>?_) (λk=>by simp only [zD,yE,zM]);obtain⟨u,w,t⟩:=m i x h1;have s:=aBz t;have f:=aWf a.mp m2 o s.1;rw [show(((qK b.Map x.Param).toNat:Nat):Int)=qK b.Map x.Param by omega]at f;simp only [zD,yD d,zT,yO h1,zC,fJ d a.sl,par_5 b.Map a.mp.pl,made_5 u w q s.2 f]
 rw [E,F]
 cases hlb:sN b with
 |true=>exact⟨3,rfl,rfl,λh=>by cases h⟩
 |false=>exact⟨0,rfl,rfl,λ_=>⟨⟨o,m1,m2,q,r,by omega,l⟩,rfl⟩⟩
structure aHg (x:fE):Prop where
 a0:0<=x.At
 a1:x.At<=1099511627776
 n0: -1125899906842624<=x.N
 n1:x.N<=1125899906842624
 m0:0<=x.Mark
 m1:x.Mark<=4
 nm:x.N≠0->2<=x.Mark
structure bAg (s:Series):Prop where
 den:s.Den=1
 n:s.Samples.length<=20000
 all: ∀x∈s.Samples,aHg x
 ord:s.Samples.Pairwise λa b=>a.At<b.At
theorem check_ok {s:Series} (h:bAg s):Fd1 s=some 0:=by
 have j:=h.n;unfold Fd1 Fg4
 repeat (first |rw [zD]|rw [yH]|rw [zC])
 rw [swi,zC,h.den,show(decide ((1:Int)<=1)&&decide ((1:Int)<=1000000))=true from rfl,zD,show(!true)=false from rfl,zM]
 repeat (first |rw [zD]|rw [yH]|rw [zC])
 rw [qD (by omega),zM];have d:Ffv s (λ_=>some (-1,0)) (s.Samples.length:Int) 0=some (-1,0):=by
  unfold Ffv;refine yR (λi=>(i:Int)) s.Samples.length (by omega) rfl (λk i hi=>?_) (λk=>by simp only [zD,yE,zM]);have b:s.Samples[i]? =some s.Samples[i]:=gE hi;have a:=h.all _ (List.getElem_mem hi);have a0:=a.a0;have a1:=a.a1;have n0:=a.n0;have n1:=a.n1;have m0:=a.m0;have m1:=a.m1;have nm:=a.nm;simp only [zD,yD hi,zT,yO b,zC,swi,nwi,xM,dY];have e:((decide (s.Samples[i].At<0)||decide (1099511627776<s.Samples[i].At))||(decide (s.Samples[i].N< -1125899906842624)||decide (1125899906842624<s.Samples[i].N))||(decide (s.Samples[i].Mark<0)||decide (4<s.Samples[i].Mark)))=false:=by
   simp only [Bool.or_eq_false_iff,decide_eq_false_iff_not];omega
  have f:(decide (s.Samples[i].N≠0)&&decide (s.Samples[i].Mark<=1))=false:=by
   rw [Bool.and_eq_false_iff,decide_eq_false_iff_not,decide_eq_false_iff_not]
   by_cases c:s.Samples[i].N=0
   ·left;simpa using c
   ·right;have:=nm c;omega
  rw [e,zM,f,zM]
  by_cases c:0<i
  ·rw [dT (show(0:Int)<(i:Int)by omega),zT,aIv b (by omega) c,zC];have g:s.Samples[i-1]? =some (s.Samples[i-1]'(by omega)):=gE (by omega);rw [g];have:=(List.pairwise_iff_getElem.1 h.ord) (i-1) i (by omega) hi (by omega);show gB (some (decide (s.Samples[i].At<=(s.Samples[i-1]'(by omega)).At))) _=_;rw [qD (by omega),zC,zM,fJ hi (by omega)]
  ·rw [qD (show¬(0:Int)<(i:Int)by omega),zM,zC,zM,fJ hi (by omega)]
 rw [d,zC]
theorem stL_lt {p:Param}(c:bP p):(dM p).Pairwise (· < ·):=by
 unfold dM stL;have d:=aIq c;refine List.Pairwise.filter _ (List.Pairwise.map _ (λa b _=>?_) List.pairwise_lt_range);have:(a:Int)*p.Every<(b:Int)*p.Every:=Int.mul_lt_mul_of_pos_right (by omega) (by omega);omega
theorem smp_ok {m:Map}{p:Param}{rs:List gW} (i:SzP p) (f:pI p=0) (h:wB rs) {base:Int} (j:0<=base) (h1:base<=5000000) {c:Cell} (b:c∈gU p 0):
  aHg (bJ m p rs base c)/\64*base<=(bJ m p rs base c).At/\(bJ m p rs base c).At<64*(base+16):=by
 have e:=jI f;obtain⟨_,_,_,_,_,_,_,_⟩:=aWv e j h1 b;obtain⟨c1,c2,c3⟩:=jC e b;have k:=aYz (R:=dW rs) (base:=base) (l:=c.Places) λx n=>⟨c2 x n,aBj h _⟩
 obtain⟨v,o,d1,-,d3,d4⟩:=aQw i f (uP (dW rs) base c.Places) (by have:=aEj (dW rs) base c.Places;rw [c3]at this;rw [uB];omega);have hd:aTf p (uP (dW rs) base c.Places)=(v,o):=by unfold aTf;rw [d1];rfl
 have t1:=e.tm.t1;have B:64*(c.Index%p.Times)/p.Times<64:=by
  have:c.Index%p.Times<p.Times:=Int.emod_lt_of_pos _ (by omega);exact Int.ediv_lt_of_lt_mul (by omega) (by omega)
 have d:(bJ m p rs base c).At=64*(base+c.Frame)+64*(c.Index%p.Times)/p.Times:=rfl;have hm:((bJ m p rs base c).N,(bJ m p rs base c).Mark)=aLf m p (dW rs) base c.Places:=rfl;unfold aLf at hm;rw [hd]at hm;refine⟨?_,by rw [d];omega,by rw [d];omega⟩;have a: -1125899906842624<=(bJ m p rs base c).N/\(bJ m p rs base c).N<=1125899906842624/\0<=(bJ m p rs base c).Mark/\(bJ m p rs base c).Mark<=4/\((bJ m p rs base c).N≠0->2<=(bJ m p rs base c).Mark):=by
  split at hm
  ·simp only [Prod.mk.injEq]at hm;omega
  ·rename_i g;simp only [Bool.or_eq_true,not_or,decide_eq_true_eq]at g;have q:=g.1;split at hm
   ·simp only [Prod.mk.injEq]at hm;omega
   ·simp only [Prod.mk.injEq]at hm;omega
 exact⟨by rw [d];omega,by rw [d];omega,a.1,a.2.1,a.2.2.1,a.2.2.2.1,a.2.2.2.2⟩
theorem sec_ord {m:Map}{p:Param}{rs:List gW} (h:qR p) (g:Int):(aMt m p rs (gU p 0) g).Pairwise λa b=>a.At<b.At:=by
 unfold aMt;rw [List.pairwise_map,List.pairwise_iff_getElem];intro i j hi q _;show bK p (g*16) (gU p 0)[i]<bK p (g*16) (gU p 0)[j];obtain⟨s,d,a2,a3⟩:=aCe (dM p) (gE hi);obtain⟨f,e,t,n⟩:=aCe (dM p) (gE q);have u:(gU p 0)[i]=Cell.mk 0 (i:Int) s (dS p s ((i%p.Times.toNat:Nat):Int)):=a2;have v:(gU p 0)[j]=Cell.mk 0 (j:Int) f (dS p f ((j%p.Times.toNat:Nat):Int)):=t;rw [u,v];unfold bK;simp only;have t1:=h.tm.t1;have t2:=h.tm.t2;obtain⟨T,w⟩: ∃T:Nat,p.Times=(T:Int):=⟨p.Times.toNat,by omega⟩;rw [w]at d a3 e n t1 t2⊢;rw [Int.toNat_natCast]at d a3 e n;have f1:(64*((i:Int)%(T:Int))/(T:Int))=((64*(i%T)/T:Nat):Int):=by norm_cast
 have f2:(64*((j:Int)%(T:Int))/(T:Int))=((64*(j%T)/T:Nat):Int):=by norm_cast
 rw [f1,f2];have g1:64*(i%T)/T<64:=Nat.div_lt_of_lt_mul (by rw [Nat.mul_comm];exact Nat.mul_lt_mul_of_pos_right a3 (by decide));have o:i/T<=j/T:=Nat.div_le_div_right (by omega)
 by_cases c:i/T=j/T
 ·rw [c]at d;rw [d]at e;obtain rfl:s=f:=by simpa using e
  have hm:i%T<j%T:=by
   have x:=Nat.div_add_mod i T;have F:=Nat.div_add_mod j T;rw [c]at x;omega
  have:64*(i%T)/T+1<=64*(j%T)/T:=by
   rw [<-Nat.add_div_right _ (by omega:0<T)];exact Nat.div_le_div_right (by omega)
  omega
 ·have y:s<f:=by
   have k:=(gS.1 d);have l:=(gS.1 e);obtain⟨z,C⟩:=k;obtain⟨D,E⟩:=l;rw [<-C,<-E];exact(List.pairwise_iff_getElem.1 (stL_lt h.tm)) _ _ z D (by omega)
  generalize 64*(i%T)/T=A at g1⊢;generalize 64*(j%T)/T=B;omega
theorem bAw {m:Map}{p:Param}{rs:List gW} (g:SzP p) (e:pI p=0) (h:wB rs) {n0:Int} (j:0<=n0): ∀k:Nat,n0+(k:Int)<=262144->(∀x∈kZ m p rs (gU p 0) n0 k,aHg x/\x.At<1024*(n0+(k:Int)))/\(kZ m p rs (gU p 0) n0 k).Pairwise λa b=>a.At<b.At
 |0,_=>⟨λx d=>by simp [kZ]at d,List.Pairwise.nil⟩
 |k+1,hk=>by
  obtain⟨i1,i2⟩:=bAw g e h j k (by omega);have i: ∀x∈aMt m p rs (gU p 0) (n0+(k:Int)),aHg x/\1024*(n0+(k:Int))<=x.At/\x.At<1024*(n0+((k+1:Nat):Int)):=by
   intro x d;unfold aMt at d;obtain⟨_,f,rfl⟩:=List.mem_map.1 d;have:=smp_ok (m:=m) g e h (base:=(n0+(k:Int))*16) (by omega) (by omega) f;exact⟨this.1,by omega,by omega⟩
  rw [aCj];refine⟨λx d=>?_,List.pairwise_append.2 ⟨i2,sec_ord (jI e) _,λa l b n=>?_⟩⟩
  ·rcases mA.1 d with d|d
   ·have:=i1 x d;exact⟨this.1,by omega⟩
   ·have:=i x d;exact⟨this.1,this.2.2⟩
  ·have:=i1 a l;have:=i b n;omega
theorem ser_ok {m:Map}{p:Param}{rs:List gW} (k:SzP p) (l:pI p=0) (h:wB rs) (f:(jQ m p rs).2=true):bAg (jQ m p rs).1:=by
 unfold jQ at f⊢;split
 ·exact⟨rfl,(by decide),(λx d=>by cases d),List.Pairwise.nil⟩
 rename_i j;rw [if_neg j]at f;split
 ·rename_i c;rw [if_pos c]at f;cases f
 rename_i c;obtain⟨_,_,_,_,g,i,a0,_,_⟩:=ends h j;have o:(kL rs:Int)=dA rs-dC rs+1:=by unfold kL;rw [g,i];omega
 have q:((kL rs*(gU p 0).length:Nat):Int)=(kL rs:Int)*((gU p 0).length:Int):=Int.natCast_mul _ _;obtain⟨i1,i2⟩:=bAw (m:=m) k l h (n0:=dC rs) (by rw [g];omega) (kL rs) (by rw [o,g,i];omega);refine⟨rfl,?_,λx d=>?_,List.pairwise_append.2 ⟨i2,List.pairwise_singleton _ _,λx d _ r=>?_⟩⟩
 ·show(kZ m p rs (gU p 0) (dC rs) (kL rs)++[_]).length<=_;rw [List.length_append,rE,List.length_singleton];omega
 ·rcases mA.1 d with d|d
  ·exact(i1 x d).1
  ·rw [mS.1 d];have:0<=dA rs/\dA rs<=262143:=by rw [i];omega
   exact⟨by show 0<=(dA rs+1)*1024;omega,by show(dA rs+1)*1024<=_;omega,by show(_:Int)<=0;decide,by show(0:Int)<=_;decide,by show(0:Int)<=0;decide,by show(0:Int)<=4;decide,λe=>absurd rfl e⟩
 ·rw [mS.1 r];have:=(i1 x d).2;show x.At<(dA rs+1)*1024;omega
def inL (x:Line)(v:Int):Bool:=decide (x.From<=v)&&decide (v<=x.To)
def aRv (c:fB)(v:Int):Nat->Line->Option (Option (Int×Bool)):=λ_ x=>if inL x v=true then some (some (if dH (aBv x v) c.Low c.High=true then(0,false)else(aBv x v,true)))else none
def aVp (c:fB)(v:Int):Nat->Line->Option (Option (Int×Bool)):=λ_ x=>if (inL x v&& !dH (aBv x v) c.Low c.High)=true then some (some (aBv x v,true))else none
def aQd (c:fB)(v:Int):Int×Bool:=(dI (aRv c v) (some (0,false)) c.Lines 0).getD (0,false)
theorem aOb (c:fB) (v:Int):dI (aRv c v) (some (0,false)) c.Lines 0=some (aQd c v):=by
 unfold aQd;rcases aO (aRv c v) c.Lines 0 with ⟨_,_,_,-,a,b⟩|⟨-,b⟩
 ·rw [b];unfold aRv at a;split at a
  ·cases a;rfl
  ·cases a
 ·rw [b];rfl
theorem aUl (c:fB) (v:Int): ∀(l:List Line) (i:Nat),(l.Pairwise λa b=>a.To<b.From)->dI (aVp c v) (some (0,false)) l i=dI (aRv c v) (some (0,false)) l i
 | [],_,_=>rfl
 |x::l,i,h=>by
  obtain⟨h1,f⟩:=List.pairwise_cons.1 h;have d:=aUl c v l (i+1) f;rw [dI,dI];unfold aVp aRv
  by_cases c1:inL x v=true
  ·cases c2:dH (aBv x v) c.Low c.High with
   |false=>simp only [c1,Bool.not_false,Bool.and_true,if_true,Bool.false_eq_true,if_false]
   |true=>
    simp only [c1,Bool.not_true,Bool.and_false,Bool.false_eq_true,if_false,if_true];unfold inL at c1;rw [Bool.and_eq_true,decide_eq_true_eq,decide_eq_true_eq]at c1;have: ∀(l:List Line) (i:Nat),(∀y∈l,x.To<y.From)->dI (aVp c v) (some (0,false)) l i=some (0,false):=by
     intro l
     induction l with
     |nil=>intro i _;rfl
     |cons y l d=>
      intro i e;rw [dI];have g:=e y (List.mem_cons_self ..);have:aVp c v i y=none:=by
       unfold aVp inL;rw [qD (by omega: ¬y.From<=v)];rfl
      rw [this];exact d (i+1) λz j=>e z (List.mem_cons_of_mem _ j)
    exact this l (i+1) h1
  ·have c1:inL x v=false:=by simpa using c1
   simp only [c1,Bool.false_and,Bool.false_eq_true,if_false];exact d
theorem lines_ord {c:fB} (h:aNr c):c.Lines.Pairwise λa b=>a.To<b.From:=by
 have f: ∀x∈c.Lines,x.From<=x.To:=by
  intro x i;have:=h.lb x i;unfold uU at this;simp only [Bool.or_eq_false_iff,decide_eq_false_iff_not]at this;omega
 have: ∀l:List Line,(∀x∈l,x.From<=x.To)->(∀(j:Nat) (x y:Line),l[j]? =some y->l[j+1]? =some x->y.To<x.From)->l.Pairwise λa b=>a.To<b.From:=by
  intro l
  induction l with
  |nil=>intro _ _;exact List.Pairwise.nil
  |cons x l d=>
   intro h1 g;have d:=d (λy k=>h1 y (List.mem_cons_of_mem _ k)) (λj a b m n=>g (j+1) a b (by simpa using m) (by simpa using n));refine List.Pairwise.cons (λz e=>?_) d
   cases l with
   |nil=>cases e
   |cons y l=>
    have:=g 0 y x rfl rfl;rcases List.mem_cons.1 e with rfl|e
    ·exact this
    ·have a:=(List.pairwise_cons.1 d).1 z e;have b:=h1 y (List.mem_cons_of_mem _ (List.mem_cons_self ..));omega
 exact this c.Lines f h.ord
theorem apply_s {c:fB}(h:aNr c)(v:Int):Fc4 c v=some (aQd c v):=by
 have a:c.Lines.length<=9223372036854775807:=by have:=h.n2;omega
 rw [<-aOb,<-aUl c v c.Lines 0 (lines_ord h)];unfold Fc4 Fi8
 repeat (first |rw [zD]|rw [yH]|rw [zC])
 refine xQ c.Lines (aVp c v) _ a (λk _ x h1 b=>?_) (λk=>by simp only [zD,yE,zM]);simp only [zD,yH,yD b,zT,yO h1,zC,fJ b a,swi,Fa5];unfold aVp;show gJ (inL x v) (gJ (decide (c.Low<=aBv x v)&&decide (aBv x v<=c.High)) (some (aBv x v,true)) _) _=_;have e:(decide (c.Low<=aBv x v)&&decide (aBv x v<=c.High))= !dH (aBv x v) c.Low c.High:=by
  unfold dH;rw [<-nwi,Bool.not_not]
 rw [e]
 cases inL x v<;>cases dH (aBv x v) c.Low c.High<;>rfl
def vO (c:fB)(x:fE):fE:=if 2<=x.Mark then(if (aQd c x.N).2=true then fE.mk x.At (aQd c x.N).1 x.Mark else fE.mk x.At 0 1)else x
def aLs (s:Series)(c:fB):Series:=Series.mk c.Den (s.Samples.map (vO c))
theorem clone_eq (l:List fE)(h:l.length<=20000):Fbf l=some l:=by
 unfold Fbf nilO
 cases l with
 |nil=>rfl
 |cons _ l=>
  simp only;rw [zM,aK (by rw [List.length_nil];omega) (by decide),zC];rfl
theorem cal_eq {c:fB} (j:aGp c=0) (e:c.Lines.length<=9223372036854775807) {s:Series} (h:bAg s):Fdc s c=some (aLs s c,0):=by
 have l:=h.n;have f:=cal_ok j;unfold Fdc;rw [check_ok h,zC,zD,show decide ((0:Int)≠0)=false from rfl,zM,cal_s c e,aIw,j,zC,zD,show decide ((0:Int)≠0)=false from rfl,zM,zD,h.den,show decide ((1:Int)≠1)=false from rfl,zM,clone_eq _ l,zC,zD];have m:Feo c (s.Samples.length:Int) (0,s.Samples)=some (s.Samples.map (vO c)):=by
  unfold Feo;refine yR (λi=>((i:Int),(s.Samples.take i).map (vO c)++s.Samples.drop i)) s.Samples.length (by omega) rfl (λk i hi=>?_) (λk=>?_)
  ·have o:s.Samples[i]? =some s.Samples[i]:=gE hi;have g:s.Samples.drop i=s.Samples[i]::s.Samples.drop (i+1):=List.drop_eq_getElem_cons hi;have a:((s.Samples.take i).map (vO c)).length=i:=by rw [List.length_map,List.length_take];omega
   have p:at' ((s.Samples.take i).map (vO c)++s.Samples[i]::s.Samples.drop (i+1)) (i:Int)=some s.Samples[i]:=at_mid _ _ _ i a;have b: ∀y,set' ((s.Samples.take i).map (vO c)++s.Samples[i]::s.Samples.drop (i+1)) (i:Int) y=some ((s.Samples.take i).map (vO c)++y::s.Samples.drop (i+1)):=λy=>set_at _ _ _ _ i a
   have d:(s.Samples.take (i+1)).map (vO c)++s.Samples.drop (i+1)=(s.Samples.take i).map (vO c)++vO c s.Samples[i]::s.Samples.drop (i+1):=by
    rw [bD o,List.map_append,List.map_singleton,List.append_assoc];rfl
   simp only [zD,yD hi,zT,g,p,b,zC,apply_s f,fJ hi (by omega),d];unfold vO
   by_cases c1:2<=s.Samples[i].Mark
   ·rw [qD (by omega: ¬s.Samples[i].Mark<2),zM,if_pos c1]
    cases c2:(aQd c s.Samples[i].N).2 with
    |true=>rfl
    |false=>rfl
   ·rw [dT (by omega:s.Samples[i].Mark<2),zT,if_neg c1,zC]
  ·simp only [zD,yE,zM,List.take_length,List.drop_length,List.append_nil]
 rw [m,zC];rfl
structure wE (b:Book)(rs:List gW):Prop where
 ok:wB rs
 nil:rs=[]↔b.Rests=[]
 f:dC rs=dC b.Rests
 l:dA rs=dA b.Rests
theorem aGg {b:Book}(h:wB b.Rests):wE b b.Rests:=⟨h,Iff.rfl,rfl,rfl⟩
theorem aUe {b:Book}{rs:List gW} (h:wE b rs) (m:Map) (p:Param):(jQ m p rs).2=(jQ m p b.Rests).2:=by
 have a:kL rs=kL b.Rests:=by unfold kL;rw [h.f,h.l]
 unfold jQ;by_cases c:rs=[];rw [if_pos c,if_pos (h.nil.1 c)];rw [if_neg c,if_neg (λe=>c (h.nil.2 e)),a];split<;>rfl
theorem aPr {b:Book} (h:wB b.Rests):Fap b=some (if b.Rests=[]then(0,0,false)else(dC b.Rests,dA b.Rests,true)):=by
 unfold Fap
 repeat (first |rw [zD]|rw [yH]|rw [zC])
 rw [yS]
 by_cases c:b.Rests=[]
 ·rw [if_pos c,if_pos (by rw [c];rfl)]
 ·have a:b.Rests.length≠0:=λe=>c (List.eq_nil_of_length_eq_zero e)
  obtain⟨_,_,d,f,g,i,a0,_,_⟩:=ends h c;rw [if_neg c,if_neg (by omega),d,zC,jV a0 (by omega) (by decide),zC]
  repeat (first |rw [zD]|rw [yH]|rw [zC])
  rw [f,zC,jV (by omega) (by omega) (by decide),zC,g,i]
def trM (b:Book)(rs:List gW)(x:fD):Track:=Track.mk x.Track (match x.Meaning with
 | [c]=>aLs (jQ b.Map (bV b x) rs).1 c
 |_=>(jQ b.Map (bV b x) rs).1) x.Long
structure aJt (b:Book)(x:fD):Prop where
 par:0<=qK b.Map x.Param
 sz:SzP (bV b x)
 ck:pI (bV b x)=0
 m1:x.Meaning.length<=1
 mc: ∀c∈x.Meaning,aGp c=0/\c.Lines.length<=9223372036854775807
 fit:(jQ b.Map (bV b x) b.Rests).2=true
theorem src_ok {b:Book} (k:SzB b) (m:aQ b) (j:sN b=false) {i:Nat}{x:fD} (hi:b.Sources[i]? =some x):aJt b x:=by
 have h:=m.src i x hi;have hm:=qS hi;have n:=aYi h;have a:=qS (aBz n).1;have o:=k.ss x hm;have f:(jQ b.Map (bV b x) b.Rests).2=true:=by
  unfold sN at j;rw [List.any_eq_false]at j;have:=j x hm;simpa using this
 unfold aDe at h;split at h
 ·cases h
 split at h
 ·cases h
 split at h
 ·cases h
 split at h
 ·cases h
 rename_i c2;split at h
 ·rename_i c;exact absurd h c
 rename_i c5;refine⟨n,k.mp.ps _ a,(m.mp.all _ a).ck,by omega,λc g=>⟨?_,o.ms c g⟩,f⟩;unfold aKr at c5;rcases hmm:x.Meaning with _|⟨_,_|⟨_,_⟩⟩
 ·rw [hmm]at g;cases g
 ·rw [hmm]at g c5;rw [mS.1 g];simpa using c5
 ·rw [hmm]at c2;simp at c2
theorem made_l {b:Book}{rs:List gW}{x:fD} (u:b.Map.Params.length<=9223372036854775807) (F:wB b.Rests) (h:wE b rs) (j:aJt b x) {f l:Int}{q:Bool} (o:(if b.Rests=[]then((0:Int),(0:Int),false)else(dC b.Rests,dA b.Rests,true))=(f,l,q)):
  Fdd b x rs f l=some (trM b rs x):=by
 have d:(jQ b.Map (bV b x) rs).2=true:=by rw [aUe h];exact j.fit
 have v:=ser_ok (m:=b.Map) j.sz j.ck h.ok d;obtain⟨p,G,w⟩:=parOf b u x;obtain rfl:p=bV b x:=by
  have:=w j.par;rw [(aBz j.par).1]at this;simpa using this.symm
 unfold Fdd;rw [G,zC];simp only;rw [aPr F,o,zC];simp only [zD];rw [Int.max_self,Int.min_self];have r:=aQo j.sz j.ck;have s:(gB (gB (gJ q (some (decide (f<=l))) (some false)) λy=>gJ y (gB (Fdn b.Map (bV b x) rs f l (decide (l=l))) λt=>some (t.Den,t.Samples)) (some (1,[])))
   λg=>some g)=some ((jQ b.Map (bV b x) rs).1.Den,(jQ b.Map (bV b x) rs).1.Samples):=by
  by_cases c:b.Rests=[]
  ·rw [if_pos c]at o
   cases o
   have:rs=[]:=h.nil.2 c;subst this;rfl
  ·have D:rs≠[]:=λe=>c (h.nil.1 e)
   rw [if_neg c]at o
   cases o
   obtain⟨a,_,_,_,A,B,a0,_,_⟩:=ends h.ok D;have O:(kL rs:Int)=dA rs-dC rs+1:=by unfold kL;rw [A,B];omega
   rw [<-h.f,<-h.l,zT,zC,dT (by rw [A,B];omega),zT,dT rfl];unfold jQ at d⊢;rw [if_neg D]at d⊢;split at d
   ·cases d
   rename_i I;rw [if_neg I];have J:((kL rs*(gU (bV b x) 0).length:Nat):Int)=(kL rs:Int)*((gU (bV b x) 0).length:Int):=Int.natCast_mul _ _;have K:0<=dA rs/\dA rs<=262143:=by rw [B];omega
   unfold Fdn;rw [zD,r,zC];simp only [zD];rw [aNq j.sz j.ck h.ok (kL rs) (by rw [A];omega) (by omega) K.2 (by omega),zC,zT,wrap_i64 (n:=dA rs+1) (by omega) (by omega),wrap_i64 (n:=(dA rs+1)*1024) (by omega) (by omega),
    aK (by rw [rE,List.length_singleton];omega) (by decide)]
   rfl
 have C: ∀a:Option (Int×List fE),(gB a λg=>some g)=a:=λa=>by cases a<;>rfl
 rw [C]at s;rw [s,zC];simp only;have hm:Fgt x (x.Meaning.length:Int) (0,(jQ b.Map (bV b x) rs).1.Den,(jQ b.Map (bV b x) rs).1.Samples)=some ((trM b rs x).Series.Den,(trM b rs x).Series.Samples):=by
  unfold Fgt trM;rcases hmm:x.Meaning with _|⟨c,_|⟨e,l⟩⟩
  ·refine yR (λ_=>(0,(jQ b.Map (bV b x) rs).1.Den,(jQ b.Map (bV b x) rs).1.Samples)) 0 (by decide) rfl (λk i hi=>by omega) (λk=>rfl)
  ·have E:=j.mc c (by rw [hmm];exact List.mem_cons_self ..);refine yR (λi=>match i with
    |0=>(0,(jQ b.Map (bV b x) rs).1.Den,(jQ b.Map (bV b x) rs).1.Samples)
    |_=>(1,(aLs (jQ b.Map (bV b x) rs).1 c).Den,(aLs (jQ b.Map (bV b x) rs).1 c).Samples)) 1 (by decide) rfl (λk i hi=>?_) (λk=>rfl)
   obtain rfl:i=0:=by omega
   simp only [zD];rw [show decide ((0:Int)<(([c]:List fB).length:Int))=true from rfl,zT,show at' [c] 0=some c from rfl,zC];have:Series.mk (jQ b.Map (bV b x) rs).1.Den (jQ b.Map (bV b x) rs).1.Samples=(jQ b.Map (bV b x) rs).1:=rfl;rw [this,cal_eq E.1 E.2 v,zC];rfl
  ·have:=j.m1;rw [hmm]at this;simp at this
 rw [hm,zC];rfl
def bM (b:Book)(rs:List gW):List Track:=b.Sources.map (trM b rs)
theorem all_l {b:Book}{rs:List gW} (e:SzB b) (c:aQ b) (g:sN b=false) (h:wE b rs):Fbn b rs=some (bM b rs):=by
 have j:=c.sn;unfold Fbn;rw [aPr c.rs,zC];obtain⟨f,l,q,a⟩: ∃f l q,(if b.Rests=[]then((0:Int),(0:Int),false)else(dC b.Rests,dA b.Rests,true))=(f,l,q):=⟨_,_,_,rfl⟩;rw [a];simp only
 repeat (first |rw [zD]|rw [yH]|rw [zC])
 unfold Fjl;rw [yR (r:=some (bM b rs)) (λi=>((b.Sources.take i).map (trM b rs),(i:Int))) b.Sources.length (by omega)]
 ·rfl
 ·rfl
 ·intro k i hi;have d:b.Sources[i]? =some b.Sources[i]:=gE hi;simp only [zD,yD hi,zT,yO d,zC,made_l e.mp.pl c.rs h (src_ok e c g d) a];rw [aK (by rw [List.length_map,List.length_take,List.length_singleton];omega) (by decide),zC,fJ hi (by omega),bD d,List.map_append,List.map_singleton]
 ·intro k;simp only [zD,yE,zM,List.take_length];rfl
def aDp (a:List gV):List (gV×Bool):=a.foldl (λm w=>kJ m w true) []
theorem set_l (a:List gV) (h:a.length<=9223372036854775807):Fde a=some (aDp a):=by
 unfold Fde Fjz
 repeat (first |rw [zD]|rw [yH]|rw [zC])
 rw [yR (r:=some (aDp a)) (λi=>((i:Int),aDp (a.take i))) a.length h]
 ·rfl
 ·rfl
 ·intro k i hi;have b:a[i]? =some a[i]:=gE hi;simp only [zD,yD hi,zT,yO b,zC,fJ hi h];rw [bD b];unfold aDp;rw [foldl_snoc]
 ·intro k;simp only [zD,yE,zM,List.take_length]
def vI (p:Nat->Bool)(A B:Arr 64 Int):Arr 64 Int:=⟨(List.range 64).map λk=>if p k=true then A.l.getD k 0 else B.l.getD k 0,by rw [List.length_map,List.length_range]⟩
theorem aOn {A B:Arr 64 Int} (h: ∀k,k<64->A.l.getD k 0=B.l.getD k 0):A=B:=by
 have:A.l=B.l:=by
  apply List.ext_getElem?;intro k
  by_cases c:k<64
  ·have:=h k c;rw [List.getD_eq_getElem?_getD,List.getD_eq_getElem?_getD,gE (by rw [A.h];exact c),gE (by rw [B.h];exact c)]at this;rw [gE (by rw [A.h];exact c),gE (by rw [B.h];exact c)];exact congrArg some this
  ·rw [List.getElem?_eq_none (by rw [A.h];omega),List.getElem?_eq_none (by rw [B.h];omega)]
 cases A;cases B;cases this;rfl
theorem aAm (p:Nat->Bool)(A B:Arr 64 Int){k:Nat}(hk:k<64):(vI p A B).l.getD k 0=if p k=true then A.l.getD k 0 else B.l.getD k 0:=by
 unfold vI;rw [List.getD_eq_getElem?_getD,List.getElem?_map,List.getElem?_range hk];rfl
theorem set_at' (A:Arr 64 Int){i k:Nat}(hk:k<64)(v:Int):(Arr.set A (i:Int) v).l.getD k 0=if i=k then v else A.l.getD k 0:=by
 show(A.l.set (i:Int).toNat v).getD k 0=_;rw [Int.toNat_natCast,List.getD_eq_getElem?_getD,List.getElem?_set];by_cases c:i=k;rw [if_pos c,if_pos c,if_pos (by rw [A.h];omega)];rfl;rw [if_neg c,if_neg c,List.getD_eq_getElem?_getD]
def kS (s:List (gV×Bool))(n:Int)(k:Nat):Bool:=aI s (gV.mk n (k:Int)) false
def mO:Arr 64 Int:=Arr.rep 64 0
theorem aYw {k:Nat}(hk:k<64):mO.l.getD k 0=0:=by
 show(List.replicate 64 (0:Int)).getD k 0=0;rw [List.getD_eq_getElem?_getD,List.getElem?_replicate];split<;>rfl
theorem aJe (A:Arr 64 Int){i:Nat}(hi:i<64):at' A.l (i:Int)=some (A.l.getD i 0):=by
 rw [aAb,List.getD_eq_getElem?_getD,gE (by rw [A.h];exact hi)];rfl
def jP (s:List (gV×Bool))(r:gW):gW:=gW.mk r.Number (vI (kS s r.Number) r.Frame mO) (vI (kS s r.Number) r.States mO) false 0 false
theorem words_l (s:List (gV×Bool)) (r:gW):Fef s r (0,mO,mO)=some (vI (kS s r.Number) r.Frame mO,vI (kS s r.Number) r.States mO):=by
 unfold Fef;refine yR (λi=>((i:Int),vI (λk=>decide (k<i)&&kS s r.Number k) r.Frame mO,vI (λk=>decide (k<i)&&kS s r.Number k) r.States mO)) 64 (by decide) ?_ (λk i hi=>?_) (λk=>?_)
 ·have e: ∀A:Arr 64 Int,mO=vI (λk=>decide (k<0)&&kS s r.Number k) A mO:=λA=>aOn λk hk=>by rw [aAm _ _ _ hk,qD (by omega)];rfl
  rw [<-e,<-e];rfl
 ·have step: ∀A:Arr 64 Int,vI (λk=>decide (k<i+1)&&kS s r.Number k) A mO=if kS s r.Number i=true then Arr.set (vI (λk=>decide (k<i)&&kS s r.Number k) A mO) (i:Int) (A.l.getD i 0)else vI (λk=>decide (k<i)&&kS s r.Number k) A mO:=by
   intro A;refine aOn λk hk=>?_
   rw [aAm _ _ _ hk]
   by_cases c:kS s r.Number i=true
   ·rw [if_pos c,set_at' _ hk,aAm _ _ _ hk]
    by_cases e:i=k
    ·subst e;rw [if_pos rfl,dT (by omega),Bool.true_and,if_pos c]
    ·rw [if_neg e,show decide (k<i+1)=decide (k<i)from decide_eq_decide.2 (by omega)]
   ·rw [if_neg c,aAm _ _ _ hk]
    by_cases e:i=k
    ·subst e;have c:kS s r.Number i=false:=by simpa using c
     rw [c,Bool.and_false,Bool.and_false]
    ·rw [show decide (k<i+1)=decide (k<i)from decide_eq_decide.2 (by omega)]
  simp only [zD];rw [dT (by omega:(i:Int)<64),zT,aJe r.States hi,zC,aJe r.Frame hi,zC,aJe _ hi,zC,aJe _ hi,zC,fJ (n:=64) hi (by decide),step,step];show gB (gJ (kS s r.Number i) _ _) _=_
  cases kS s r.Number i<;>rfl
 ·have e: ∀A:Arr 64 Int,vI (λk=>decide (k<64)&&kS s r.Number k) A mO=vI (kS s r.Number) A mO:=λA=>aOn λk hk=>by rw [aAm _ _ _ hk,aAm _ _ _ hk,dT hk,Bool.true_and]
  show some (vI (λk=>decide (k<64)&&kS s r.Number k) r.Frame mO,vI (λk=>decide (k<64)&&kS s r.Number k) r.States mO)=_;rw [e,e]
theorem only_l (rs:List gW) (s:List (gV×Bool)) (h:rs.length<=5000):Fcg rs s=some (rs.map (jP s)):=by
 unfold Fcg Fj0
 repeat (first |rw [zD]|rw [yH]|rw [zC])
 rw [yR (r:=some (rs.map (jP s))) (λi=>((rs.take i).map (jP s),(i:Int))) rs.length (by omega)]
 ·rfl
 ·rfl
 ·intro k i hi;have a:rs[i]? =some rs[i]:=gE hi;have b:=words_l s rs[i];unfold mO at b;simp only [zD,yD hi,zT,yO a,zC,b];rw [aK (by rw [List.length_map,List.length_take,List.length_singleton];omega) (by decide),zC,fJ hi (by omega),bD a,List.map_append,List.map_singleton];rfl
 ·intro k;simp only [zD,yE,zM,List.take_length]
theorem aFx {b:Book} (e:wB b.Rests) (f:gW->gW) (d: ∀r,(f r).Number=r.Number) (g: ∀r,qP r->qP (f r)):wE b (b.Rests.map f):=by
 refine⟨⟨by rw [List.length_map];exact e.n,?_,?_⟩,by rw [List.map_eq_nil_iff],?_,?_⟩
 ·intro r i;obtain⟨q,j,rfl⟩:=List.mem_map.1 i;have:=e.good q j;rw [d];exact⟨g q this.1,this.2⟩
 ·unfold Srt;rw [List.pairwise_map];exact List.Pairwise.imp (λ {_ _} h=>by rw [d,d];exact h) e.srt
 ·unfold dC;rw [List.head?_map]
  cases b.Rests.head? with
  |none=>rfl
  |some r=>show(f r).Number/16=r.Number/16;rw [d]
 ·unfold dA;rw [List.getLast?_map]
  cases b.Rests.getLast? with
  |none=>rfl
  |some r=>show(f r).Number/16=r.Number/16;rw [d]
theorem aUb (p:Nat->Bool) {A:Arr 64 Int}{m:Int} (h: ∀x∈A.l,0<=x/\x<=m) (hm:0<=m): ∀x∈(vI p A mO).l,0<=x/\x<=m:=by
 intro x b;unfold vI at b;obtain⟨k,hk,rfl⟩:=List.mem_map.1 b;have hk:=List.mem_range.1 hk;split;have a:k<A.l.length:=by rw [A.h];exact hk
 rw [List.getD_eq_getElem?_getD,gE a];exact h _ (List.getElem_mem a);rw [aYw hk];omega
theorem aDj (s:List (gV×Bool))(r:gW)(h:qP r):qP (jP s r):=
 ⟨λx a=>by have:=aUb (kS s r.Number) (A:=r.Frame) (m:=65535) (λx a=>by have:=h.fr x a;omega) (by decide) x a;omega,aUb _ h.st (by decide)⟩
theorem aXf {l:List gW} (i:Srt l) (f:gW->gW) (b: ∀r,(f r).Number=r.Number) (n:Int):dW (l.map f) n=if ∃r∈l,r.Number=n then f (dW l n)else rO:=by
 have g:Srt (l.map f):=by
  unfold Srt;rw [List.pairwise_map];exact List.Pairwise.imp (λ {_ c} h=>by rw [b,b];exact h) i
 by_cases c: ∃r∈l,r.Number=n
 ·rw [if_pos c];obtain⟨r,d,e⟩:=c;rw [mD i d e];exact mD g (List.mem_map_of_mem d) (by rw [b];exact e)
 ·rw [if_neg c];refine pU λr d e=>?_
  obtain⟨q,j,rfl⟩:=List.mem_map.1 d;exact c ⟨q,j,by rw [<-b];exact e⟩
def aEy (w:gV):Bool:=dH w.Number 0 4194303||dH w.Word 0 63
def aFs (a:List gV):Int:=if 320000<a.length then 3 else if a.any aEy=true then 9 else 0
theorem wf_l (a:List gV) (h:a.length<=9223372036854775807):Fcw a=some (aFs a):=by
 unfold Fcw aFs
 repeat (first |rw [zD]|rw [yH]|rw [zC])
 rw [yS]
 by_cases c:320000<a.length
 ·rw [if_pos c,if_pos (by omega)]
 rw [if_neg c,if_neg (by omega)];unfold Fkk;rw [jL a aEy (some 9) (some 0) h]
 ·cases a.any aEy<;>rfl
 ·intro k _ w h1 b;simp only [zD,yD b,zT,yO h1,zC,fJ b h,Ffq,fwi,nwi,xM];show gB (gJ (aEy w) (some 9) (some 0)) _=_
  cases aEy w<;>rfl
 ·intro k;simp only [zD,yE,zM]
structure WordsOk (ws:List gV):Prop where
 n:ws.length<=320000
 all: ∀w∈ws,0<=w.Number/\w.Number<=4194303/\0<=w.Word/\w.Word<=63
theorem words_ok {a:List gV}(h:aFs a=0):WordsOk a:=by
 unfold aFs at h;split at h
 ·cases h
 rename_i _;split at h
 ·cases h
 rename_i c2;refine⟨by omega,λw b=>?_⟩;have:aEy w=false:=by
  cases hb:aEy w with
  |false=>rfl
  |true=>exact absurd (List.any_eq_true.2 ⟨w,b,hb⟩) c2
 unfold aEy at this;rw [Bool.or_eq_false_iff,pF,pF]at this;omega
theorem app1 (p q:List Int)(h:p.length+q.length<=140737488355328):app' 1 p q=some (p++q):=by
 unfold app';rw [if_pos ⟨by rw [Go.OB.maxLen_eq];omega,by omega⟩]
theorem aCt (p:List Int)(n:Int)(a:0<=n/\n<=18446744073709551615)(h:p.length+20<=140737488355328): ∃q,Fbx p n 10=some q/\q.length<=p.length+20:=by
 unfold Fbx;rw [if_pos ⟨rfl,a.1,a.2,h⟩];refine⟨_,rfl,?_⟩;rw [List.length_append,aFd,Lib.decDigits_length];have:=Lib.nDigits_le20 n.toNat (by omega);omega
theorem aYj (n:Int):0<=IntKind.u64.wrap n/\IntKind.u64.wrap n<=18446744073709551615:=by
 rw [IntKind.wrap_u64];omega
theorem aRk (p:List Int) (n:Int) (h:p.length+21<=140737488355328): ∃q,Fc2 p n 10=some q/\q.length<=p.length+21:=by
 have e: ∃q,Fc8 p n 10=some q/\q.length<=p.length+21:=by
  unfold Fc8;simp only [zD,yS]
  by_cases c:n<0
  ·have b:=app1 p [45] (by simp;omega);rw [if_pos c,b,zC,zC];obtain⟨q,h1,a⟩:=aCt (p++[45]) (IntKind.u64.wrap (-IntKind.u64.wrap n)) (aYj _) (by simp;omega);simp only [];rw [h1,zC];exact⟨q,rfl,by simp at a;omega⟩
  ·rw [if_neg c,zC];obtain⟨q,h1,a⟩:=aCt p (IntKind.u64.wrap n) (aYj _) (by omega);simp only [];rw [h1,zC];exact⟨q,rfl,by omega⟩
 obtain⟨q,h1,a⟩:=e;unfold Fc2;rw [h1,zC];exact⟨q,rfl,a⟩
def Gr (r:Option gY)(n:Nat):Prop:= ∃q,r=some q/\q.out.length<=n
theorem Gr.bind {a:Option gY}{k:gY->Option gY}{n m:Nat}(h:Gr a n)(hk: ∀q,q.out.length<=n->Gr (k q) m):Gr (gB a k) m:=by
 obtain⟨q,h1,b⟩:=h;rw [h1,zC];exact hk q b
theorem Gr.some {q:gY}{n:Nat}(h:q.out.length<=n):Gr (Option.some q) n:=⟨q,rfl,h⟩
theorem aYh (p:gY)(n:Int){b:Nat}(a:p.out.length<=b)(h:b<=100000000000000):Gr (Fbl p n) (b+22):=by
 obtain⟨q,h1,_⟩:=aRk p.out n (by omega);unfold Fbl;rw [h1,zC];simp only [zD];rw [app1 q [32] (by simp;omega),zC];exact Gr.some (by simp;omega)
theorem aMh (p:List Int)(x:Bool)(h:p.length+5<=140737488355328): ∃q,Fdb p x=some q/\q.length<=p.length+5:=by
 unfold Fdb Fce
 cases x with
 |true=>rw [zT,app1 p _ (by simp [nums];omega),zC,zC];exact⟨_,rfl,by simp [nums]⟩
 |false=>rw [zM,app1 p _ (by simp [nums];omega),zC,zC];exact⟨_,rfl,by simp [nums]⟩
theorem ink_Bool (p:gY)(x:Bool){b:Nat}(a:p.out.length<=b)(h:b<=100000000000000):Gr (Fdp p x) (b+5):=by
 obtain⟨_,h1,_⟩:=aMh p.out x (by omega);unfold Fdp;rw [h1,zC];exact Gr.some (by simp;omega)
theorem aWa:Fbg=some true:=by decide+kernel
def aVd (x:Part):Prop:=i64 x.Frame/\i64 x.Word/\i64 x.Low/\i64 x.Bits
def aIt (x:Param):Prop:=okS x.Name/\i64 x.Kind/\okL (λx=>aVd x) x.Parts/\i64 x.First/\i64 x.Every/\i64 x.Times/\i64 x.Step/\okL (λx=>okS x) x.Names
def okMap (x:Map):Prop:=i64 x.Version/\okL (λx=>aIt x) x.Params
def aVz (x:Line):Prop:=i64 x.From/\i64 x.To/\i64 x.A/\i64 x.B
def vU (x:fB):Prop:=i64 x.Den/\okL (λx=>aVz x) x.Lines/\i64 x.Low/\i64 x.High
def aGc (x:fD):Prop:=okS x.Track/\okS x.Param/\okL (λx=>vU x) x.Meaning/\i64 x.Long
def aIm (x:gW):Prop:=i64 x.Number/\(∀y∈x.Frame.l,(Lit.int .u16 y).wf=true)/\(∀y∈x.States.l,i64 y)/\True/\i64 x.Copies/\True
def aPt (x:Book):Prop:=okMap x.Map/\okL (λx=>aGc x) x.Sources/\okL (λx=>aIm x) x.Rests
theorem szP {p:Param}(h:aIt p):SzP p:=⟨h.1,h.2.2.1.1,h.2.2.2.2.2.2.2.1,λs a=>h.2.2.2.2.2.2.2.2 s a⟩
theorem szR {r:gW} (h:aIm r):SzR r:=by
 have c:=h.2.1;have a: ∀x∈r.Frame.l,0<=x/\x<65536:=by
  intro x d;have:=bounds_u16 (c x d);omega
 refine⟨r.Frame.l.map Int.toNat,by rw [List.length_map];exact r.Frame.h,?_,?_⟩
 ·intro i;unfold wd;rw [List.getD_eq_getElem?_getD,List.getElem?_map]
  cases hi:r.Frame.l[i]? with
  |none=>show(0:Nat)<65536;decide
  |some x=>
   have:=a x (qS hi);show x.toNat<65536;omega
 ·apply Arr.ext;unfold en;simp only [List.map_map];have: ∀l:List Int,(∀x∈l,0<=x/\x<65536)->l=l.map ((λn:Nat=>(n:Int))∘Int.toNat):=by
   intro l
   induction l with
   |nil=>intro _;rfl
   |cons x l e=>
    intro b;rw [List.map_cons,<-e λy f=>b y (List.mem_cons_of_mem _ f)];have:=b x (List.mem_cons_self ..)
    congr 1
    show x=((x.toNat:Nat):Int);omega
  exact this _ a
theorem szB {b:Book}(h:aPt b):SzB b:=
 ⟨⟨h.1.2.1,λp d=>szP (h.1.2.2 p d)⟩,h.2.1.1,λx a=>⟨(h.2.1.2 x a).1,(h.2.1.2 x a).2.2.1.1,λc e=>((h.2.1.2 x a).2.2.1.2 c e).2.1.1⟩,h.2.2.1,λr f=>szR (h.2.2.2 r f)⟩
end Go.Lf
