/- Laws that the claim stands on; no condition beyond those stated. -/
import Derived.Test.YtibkjjklfhfipabGreatDoorTEb
namespace Go.Lf
open Go.OB
theorem aYq (f:Flight) (s:Str) (a:f.Tracks.length<=9223372036854775807):Fej f s=some (f.Tracks.find? λt=>decide (t.Name=s)):=by
 unfold Fej;simp only [zG,xG];unfold Fhm;rw [xA f.Tracks (λ_ x=>if decide (x.Name=s)=true then some (some (some x))else none) (some none) a]
 ·have: ∀(l:List gW) (i:Nat),cZ (λ_ x=>if decide (x.Name=s)=true then some (some (some x))else none) (some none) l i=some (l.find? λt=>decide (t.Name=s)):=by
   intro l
   induction l with
   |nil=>intro i;rfl
   |cons x l b=>
    intro i;rw [cZ,List.find?_cons]
    by_cases c:x.Name=s
    ·simp [c]
    ·simp only [c,decide_false,Bool.false_eq_true,if_false];exact b (i+1)
  exact this _ _
 ·intro d i x e hi;simp only [zG];rw [yP hi,zS,yH e,zA,zA,fP hi a]
  by_cases c:x.Name=s<;>simp [c,gQ]
 ·intro d;simp only [zG];rw [yO,zM]
def tkO (f:Flight)(s:Str):gW:=(f.Tracks.find? λt=>decide (t.Name=s)).getD ⟨s,⟨1,[]⟩,0⟩
def tkF (f:Flight)(r:Rules):List gW:=(kV (uY (bH r))).map (tkO f)
theorem aFk (f:Flight)(s:Str):(tkO f s).Name=s:=by
 unfold tkO
 cases e:f.Tracks.find? λt=>decide (t.Name=s)with
 |none=>rfl
 |some t=>simpa using List.find?_some e
theorem ap56 {a:Type}(p q:List a)(h:p.length+q.length<=1000000):app' 56 p q=some (p++q):=by
 unfold app';rw [if_pos ⟨by rw [maxLen_eq];omega,by omega⟩]
theorem aCe {r:Rules}(g:Gr' r):(kV (uY (bH r))).length<=48000:=by
 rw [aHp];exact trkN_len g
theorem Tracks_eq {r:Rules}(a:okR r)(h:chk r=some 0):Fdm r=some (kV (uY (bH r)),0):=by
 unfold Fdm;rw [aSs r a,h,zA];simp only [zG];rw [qD (by simp),zM,aSv (nC a h),zA]
theorem aEn {r:Rules} (a:okR r) (h:chk r=some 0) {f:Flight} (c:f.Tracks.length<=1000):Fc4 f r=some (tkF f r):=by
 have d:=aCe (nC a h);unfold Fc4;rw [Tracks_eq a h,zA];simp only [zG];unfold Fib tkF;generalize kV (uY (bH r))=l at *
 rw [show(([]:List gW),(0:Int))=(λ(i:Nat)=>((l.take i).map (tkO f),(i:Int))) 0 by simp];rw [xJ (λ(i:Nat)=>((l.take i).map (tkO f),(i:Int))) l (some (l.map (tkO f))) (by omega) ?_ ?_]
 ·rfl
 ·intro k i x b hi;simp only [zG];have j:((l.take i).map (tkO f)).length<=48000:=by simp;omega
  rw [yP hi,zS,yH b,zA,aYq f x (by omega),zA,fP hi (by omega),kG b,List.map_append];have e:tkO f x=(f.Tracks.find? λt=>decide (t.Name=x)).getD ⟨x,⟨1,[]⟩,0⟩:=rfl;rw [List.map_singleton,e]
  cases f.Tracks.find? λt=>decide (t.Name=x)with
  |none=>simp only [Option.isNone_none,Bool.not_true,zM];rw [ap56 _ _ (by simp only [List.length_singleton];omega),zA,zA];rfl
  |some t=>simp only [Option.isNone_some,Bool.not_false,zS];rw [zA,ap56 _ _ (by simp only [List.length_singleton];omega),zA,zA];rfl
 ·intro k;simp only [zG];rw [yO,zM,List.take_length]
theorem aTe:aCw ⟨1,[]⟩=0:=by decide
theorem tkF_TK {r:Rules} (g:Gr' r) {f:Flight} (n:aNf f.Tracks=0):TK (tkF f r):=by
 have q:=aCe g;obtain⟨o,_⟩:=aFl (bH r);refine⟨by unfold tkF;rw [List.length_map];omega,λi j x _ c h k=>?_,λi x c=>?_⟩
 ·unfold tkF at c h;rw [List.getElem?_map]at c h;obtain⟨a,l,rfl⟩:=Option.map_eq_some_iff.1 c;obtain⟨_,p,rfl⟩:=Option.map_eq_some_iff.1 h;rw [aFk,aFk];intro e;subst e;have hi:=(gS.1 l);have d:=(gS.1 p);have:=List.pairwise_iff_getElem.1 o i j hi.1 d.1 k;rw [hi.2,d.2,pI]at this
  cases this
 ·unfold tkF at c;rw [List.getElem?_map]at c;obtain⟨a,l,rfl⟩:=Option.map_eq_some_iff.1 c;unfold tkO
  cases e:f.Tracks.find? λt=>decide (t.Name=a)with
  |none=>exact aTe
  |some t=>
   obtain⟨j,d⟩:=List.getElem?_of_mem (List.mem_of_find?_eq_some e);exact((aKg f.Tracks j t).1 (((aJi f.Tracks).1 n).2 j t d)).2.2.1
theorem aXr {r:Rules}(a:okR r)(h:chk r=some 0){f:Flight}(b:aNf f.Tracks=0):GB r (tkF f r):=by
 have g:=nC a h;refine⟨a,h,tkF_TK g b,λs c=>?_⟩;unfold tkF;rw [List.map_map];refine List.mem_map.2 ⟨s,((aFl (bH r)).2 s).2 c,?_⟩;exact aFk f s
theorem aRd (r:Rules) {l:List gW}{s:Str} (f:s∈l.map gW.Name) (a:Int) (t:Nat): ∃(j:Nat) (x:gW),l[j]? =some x/\x.Name=s/\at' (tel l a t) (trI l s)=some (inT (a+(t:Int)) x)/\(MkR r l 0).dn (trI l s)=x.Series.Den:=by
 obtain⟨j,c,d⟩:=wH s _ 0 f;rw [Nat.zero_add]at c;rw [List.getElem?_map,Option.map_eq_some_iff]at d;obtain⟨x,b,h⟩:=d;have e:trI l s=(j:Int):=c;refine⟨j,x,b,h,?_,?_⟩;rw [e,jA];unfold tel;rw [List.getElem?_map,b];rfl;show(at' (nP l) (trI l s)).getD 0=_;rw [e,jA];unfold nP;rw [List.getElem?_map,b];rfl
theorem two_tel {r:Rules}{l1 l2:List gW} (g1:GB r l1) (g2:GB r l2) (f: ∀s∈bH r,∀x∈l1,∀y∈l2,x.Name=s->y.Name=s->x.Series=y.Series/\x.Long=y.Long) (a:Int):aRy r l1 l2 (tel l1 a) (tel l2 a):=by
 refine⟨g1,g2,bBf g1.t a,bBf g2.t a,λs hm t=>?_,λs hm=>?_⟩;obtain⟨j,x,b,a2,a3,-⟩:=aRd r (g1.n s hm) a t;obtain⟨k,y,c,d,h,-⟩:=aRd r (g2.n s hm) a t;obtain⟨e,i⟩:=f s hm x (qS b) y (qS c) a2 d;rw [a3,h];unfold inT;rw [e,i];obtain⟨j,x,b,a2,-,a4⟩:=aRd r (g1.n s hm) a 0;obtain⟨k,y,c,d,-,l⟩:=aRd r (g2.n s hm) a 0;obtain⟨e,-⟩:=f s hm x (qS b) y (qS c) a2 d;rw [a4,l,e]
theorem evV_two {r:Rules}{l1 l2:List gW} (g1:GB r l1) (g2:GB r l2) (c: ∀s∈bH r,∀x∈l1,∀y∈l2,x.Name=s->y.Name=s->x.Series=y.Series/\x.Long=y.Long) (a b:Int):evV r l1 a b=evV r l2 a b/\evP r l1 a b=evP r l2 a b:=by
 have H:=two_tel g1 g2 c a;constructor;unfold evV;rw [bBp H];unfold evP;refine List.map_congr_left λ_ _=>?_;unfold aEi;rw [phs_two H]
def mkE (s:Str):gW:=⟨s,⟨1,[]⟩,0⟩
def aEf (f:Flight)(s:Str):Bool:=f.Tracks.any λt=>decide (t.Name=s)
def flF (f:Flight)(r:Rules):List gW:=f.Tracks++((kV (uY (bH r))).filter λs=> !aEf f s).map mkE
theorem full_L2 (f:Flight) {l:List Str}{i:Nat}{s:Str} (c:l[i]? =some s) (h:f.Tracks.length<=1000):Fgp f l (i:Int) (false,0)=some (aEf f s):=by
 unfold Fgp;have d:(false,(0:Int))=(λ(k:Nat)=>(((f.Tracks.take k).any λt=>decide (t.Name=s)),(k:Int))) 0:=rfl;rw [d,xJ (λ(k:Nat)=>(((f.Tracks.take k).any λt=>decide (t.Name=s)),(k:Int))) f.Tracks (some (aEf f s)) (by omega) ?_ ?_];intro e k t a b;simp only [zG];rw [yP b,zS,fP b (by omega),kG a,List.any_append];cases(f.Tracks.take k).any λt=>decide (t.Name=s);rw [zM,yH a,zA,yH c,zA,zA];simp;rw [zS,zA];simp;intro e;simp only [zG];rw [yO,zM,List.take_length];rfl
theorem aZy {r:Rules} (b:okR r) (h:chk r=some 0) {f:Flight} (d:f.Tracks.length<=1000):Fci f r=some (flF f r):=by
 have g:=nC b h;have k:=aCe g;unfold Fci;rw [ap56 _ _ (by simp;omega),zA,aXe g,zA,<-aHp];unfold Fij flF;generalize kV (uY (bH r))=l at *
 have e:(([]:List gW)++f.Tracks,(0:Int))=(λ(i:Nat)=>(f.Tracks++((l.take i).filter λs=> !aEf f s).map mkE,(i:Int))) 0:=by simp
 rw [e,xJ (λ(i:Nat)=>(f.Tracks++((l.take i).filter λs=> !aEf f s).map mkE,(i:Int))) l (some (f.Tracks++(l.filter λs=> !aEf f s).map mkE)) (by omega) ?_ ?_]
 ·rfl
 ·intro j i s a hi;simp only [zG];have n:(f.Tracks++((l.take i).filter λs=> !aEf f s).map mkE).length<=49000:=by
   have:=List.length_filter_le (λs=> !aEf f s) (l.take i);simp only [List.length_append,List.length_map,List.length_take]at *
   omega
  rw [yP hi,zS,full_L2 f a d,zA,fP hi (by omega),kG a,List.filter_append,List.map_append]
  cases c:aEf f s
  ·rw [Bool.not_false,zS,yH a,zA,ap56 _ _ (by simp only [List.length_singleton];omega),zA,zA];rw [List.filter_cons_of_pos (by rw [c];rfl),List.filter_nil,List.map_singleton,<-List.append_assoc];rfl
  ·rw [Bool.not_true,zM,zA,List.filter_cons_of_neg (by rw [c];simp),List.filter_nil,List.map_nil,List.append_nil]
 ·intro j;simp only [zG];rw [yO,zM,List.take_length]
theorem aLb {f:Flight}{s:Str}:aEf f s=true↔s∈f.Tracks.map gW.Name:=by
 unfold aEf;rw [List.any_eq_true,List.mem_map];exact⟨λ⟨t,a,b⟩=>⟨t,a,of_decide_eq_true b⟩,λ⟨t,a,b⟩=>⟨t,a,dT b⟩⟩
theorem aYu {r:Rules} (p:okR r) (h:chk r=some 0) {f:Flight} (g:Good f):GB r (flF f r):=by
 have t:=nC p h;have C:=aCe t;obtain⟨u,v⟩:=aFl (bH r);have hm:=g.many;have tk:=tk_of g.trk;refine⟨p,h,⟨?_,?_,?_⟩,λs l=>?_⟩
 ·have:=List.length_filter_le (λs=> !aEf f s) (kV (uY (bH r)));unfold flF;rw [List.length_append,List.length_map];omega
 ·have w:(flF f r).Pairwise λa b=>a.Name≠b.Name:=by
   unfold flF;rw [List.pairwise_append];refine⟨names_pw g.trk,?_,λa z b A=>?_⟩
   ·rw [List.pairwise_map];refine List.Pairwise.filter _ (u.imp λ {a b} d e=>?_);have e:a=b:=e;rw [e,pI]at d
    cases d
   ·obtain⟨s,l,rfl⟩:=List.mem_map.1 A;have q:=(List.mem_filter.1 l).2;intro e;have e:a.Name=s:=e;have:aEf f s=true:=aLb.2 (List.mem_map.2 ⟨a,z,e⟩);rw [this]at q
    cases q
  intro i j x _ n B o;have hi:=gS.1 n;have k:=gS.1 B;have:=List.pairwise_iff_getElem.1 w i j hi.1 k.1 o;rw [hi.2,k.2]at this;exact this
 ·intro i x n;have hm:=qS n;unfold flF at hm;rcases mA.1 hm with q|q
  ·obtain⟨j,k⟩:=List.getElem?_of_mem q;exact tk.s j x k
  ·obtain⟨s,_,rfl⟩:=List.mem_map.1 q;exact aTe
 ·unfold flF;rw [List.map_append,mA]
  cases c:aEf f s
  ·refine .inr (List.mem_map.2 ⟨mkE s,List.mem_map.2 ⟨s,List.mem_filter.2 ⟨(v s).2 l,by rw [c];rfl⟩,rfl⟩,rfl⟩)
  ·exact .inl (aLb.1 c)
theorem flF_same {r:Rules}{f:Flight} (g:Good f) (s:Str) {x y:gW} (l:x∈tkF f r) (n:y∈flF f r) (o:x.Name=s) (a:y.Name=s):x=y:=by
 unfold tkF at l;obtain⟨k,_,rfl⟩:=List.mem_map.1 l;rw [aFk]at o;subst o;unfold flF at n;unfold tkO;rcases mA.1 n with q|q
 ·cases e:f.Tracks.find? λt=>decide (t.Name=k)with
  |none=>
   have:=List.find?_eq_none.1 e y q;rw [a]at this;simp at this
  |some t=>
   have b:t.Name=k:=by simpa using List.find?_some e
   obtain⟨i,hi⟩:=List.getElem?_of_mem (List.mem_of_find?_eq_some e);obtain⟨j,h⟩:=List.getElem?_of_mem q;have tk:=tk_of g.trk;rcases Nat.lt_trichotomy i j with c|c|c
   ·exact absurd (b.trans a.symm) (tk.d i j t y hi h c)
   ·subst c;rw [hi]at h;exact oI h
   ·exact absurd (a.trans b.symm) (tk.d j i y t h hi c)
 ·obtain⟨s2,p,rfl⟩:=List.mem_map.1 q;have a:s2=k:=a;subst a;have q:=(List.mem_filter.1 p).2;have:f.Tracks.find? (λt=>decide (t.Name=s2))=none:=by
   refine List.find?_eq_none.2 λt b=>?_
   intro u;have:aEf f s2=true:=aLb.2 (List.mem_map.2 ⟨t,b,of_decide_eq_true u⟩);rw [this]at q
   cases q
  rw [this];rfl
theorem fl_two {r:Rules}(c:okR r)(h:chk r=some 0){f:Flight}(g:Good f)(a b:Int):evV r (tkF f r) a b=evV r (flF f r) a b/\evP r (tkF f r) a b=evP r (flF f r) a b:=
 evV_two (aXr c h g.trk) (aYu c h g) (λs _ _ d _ e i j=>by rw [flF_same g s d e i j];exact⟨rfl,rfl⟩) a b
def qW:Bool->List Int->Nat
 |_,[]=>0
 |o,x::l=>(if x=2/\o=false then 1 else 0)+qW (decide (x=2)) l
theorem aVr (l:List Int): ∀(d t e:Nat),t+d=e->(∀s,t<=s->s<e->l[s]? =some 2)->qW true (l.drop t)=qW true (l.drop e)
 |0,t,e,hd,_=>by rw [show t=e by omega]
 |d+1,t,e,hd,h=>by
  have a:=h t (Nat.le_refl _) (by omega);have b:=(gS.1 a).1;have c:=(gS.1 a).2;rw [List.drop_eq_getElem_cons b,qW,c,if_neg (by simp),dT rfl,Nat.zero_add];exact aVr l d (t+1) e (by omega) λs _ f=>h s (by omega) f
theorem aRo {a i:Int}{l:List Int}{t:Nat}{c:List fJ} (k:aNj a i l t c):(∀x∈c,x.Rule=i)/\ ∀o:Bool,(o=true->l[t]? ≠some 2)->c.length=qW o (l.drop t):=by
 induction k with
 | @done t h=>exact⟨λx b=>(by cases b),λo _=>by rw [List.drop_of_length_le h];rfl⟩
 | @skip t c h f _ d=>
  refine⟨d.1,λo _=>?_⟩;have b:l[t]≠2:=λq=>f (by rw [gE h,q])
  rw [List.drop_eq_getElem_cons h,qW,if_neg (λq=>b q.1),qD b,Nat.zero_add];exact d.2 false (λq=>by cases q)
 | @run t e c h f j _ d=>
  refine⟨λx b=>?_,λo n=>?_⟩
  ·rcases List.mem_cons.1 b with rfl|b
   ·rfl
   ·exact d.1 x b
  ·have b:=f t (Nat.le_refl _) h;have p:=(gS.1 b).1;have r:=(gS.1 b).2;have of:o=false:=by
    cases o with
    |false=>rfl
    |true=>exact absurd b (n rfl)
   rw [List.drop_eq_getElem_cons p,qW,r,if_pos ⟨rfl,of⟩,dT rfl,aVr l (e-t) (t+1) (e+1) (by omega) (λs _ _=>f s (by omega) (by omega)),List.length_cons,d.2 true (λ_=>j)];omega
theorem rZ {a:Type}(f:Nat->a){R i:Nat}(h:i<R):((List.range R).map f)[i]? =some (f i):=by
 rw [List.getElem?_map,List.getElem?_range h];rfl
theorem aDx {a:Type}(f:Nat->a){R i:Nat}(h:i<R):at' ((List.range R).map f) (i:Int)=some (f i):=yH (rZ f h)
theorem xX {b:Type}{f g:Nat->b}{R i:Nat} (h:i<R) {x:b} (d: ∀j,j<R->g j=if j=i then x else f j):set' ((List.range R).map f) (i:Int) x=some ((List.range R).map g):=by
 unfold set';rw [if_pos ⟨by omega,by simp;omega⟩,Int.toNat_natCast];congr 1;refine List.ext_getElem? λj=>?_;rw [List.getElem?_set];by_cases a:j<R;rw [rZ g a,d j a];by_cases c:i=j;subst c;rw [if_pos rfl,if_pos (by simpa using h),if_pos rfl];rw [if_neg c,if_neg (λq=>c q.symm),rZ f a];have e:((List.range R).map g)[j]? =none:=List.getElem?_eq_none (by simp;omega);have k:((List.range R).map f)[j]? =none:=List.getElem?_eq_none (by simp;omega);rw [e,k,if_neg (by omega)]
theorem xP {a:Type}{f g:Nat->a}{R:Nat}(h: ∀j,j<R->f j=g j):(List.range R).map f=(List.range R).map g:=List.map_congr_left λj b=>h j (List.mem_range.1 b)
def aFi:Bool->List Int->Bool
 |o,[]=>o
 |_,x::l=>aFi (decide (x=2)) l
theorem aJl (x:Int): ∀(l:List Int) (o:Bool),aFi o (l++[x])=decide (x=2)
 | [],_=>rfl
 |_::l,_=>aJl x l _
theorem aOg (x:Int): ∀(l:List Int) (o:Bool),qW o (l++[x])=qW o l+if x=2/\aFi o l=false then 1 else 0
 | [],o=>by
  show qW o [x]=qW o []+if x=2/\o=false then 1 else 0;rw [qW,qW,qW,Nat.zero_add,Nat.add_zero]
 |y::l,o=>by
  rw [List.cons_append,qW,aOg x l,qW,Nat.add_assoc];rfl
theorem bAd: ∀(l:List Int) (o:Bool),qW o l<=l.length
 | [],_=>Nat.le_refl _
 |x::l,o=>by
  have:=bAd l (decide (x=2));rw [qW,List.length_cons];split<;>omega
theorem getD_at {a:Type}{l:List a}{i:Nat}{d:a}(h:i<l.length):l[i]? =some (l.getD i d):=by
 rw [List.getD_eq_getElem?_getD,gE h];rfl
theorem aWa {v:List Int} (ph:List Str) {R:Nat} (u:v.length=R) (w:R<=1000) (f:Nat->Bool) (g:Nat->Int) (r: ∀j,j<R->0<=g j/\g j<=1000000):
  Fee v ph ((List.range R).map f) ((List.range R).map g)=some ((List.range R).map (λj=>decide (v.getD j 0=2)),(List.range R).map λj=>g j+if v.getD j 0=2/\f j=false then 1 else 0):=by
 unfold Fee;simp only [zG];unfold Fhn;have s:((0:Int),(List.range R).map f,(List.range R).map g)=(λ(i:Nat)=>((i:Int),(List.range R).map (λj=>if j<i then decide (v.getD j 0=2)else f j),(List.range R).map λj=>if j<i then g j+(if v.getD j 0=2/\f j=false then 1 else 0)else g j)) 0:=by
  dsimp only;simp only [Nat.not_lt_zero,if_false];rfl
 rw [s,xJ (λ(i:Nat)=>((i:Int),(List.range R).map (λj=>if j<i then decide (v.getD j 0=2)else f j),(List.range R).map λj=>if j<i then g j+(if v.getD j 0=2/\f j=false then 1 else 0)else g j)) v (some ((List.range R).map (λj=>decide (v.getD j 0=2)),(List.range R).map λj=>g j+if v.getD j 0=2/\f j=false then 1 else 0)) (by omega) ?_ ?_]
 ·intro k i x o hi;have a:i<R:=by omega
  have n:v.getD i 0=x:=by rw [List.getD_eq_getElem?_getD,o];rfl
  have b:=r i a;have e:set' ((List.range R).map (λj=>if j<i then decide (v.getD j 0=2)else f j)) (i:Int) (decide (x=2))=some ((List.range R).map (λj=>if j<i+1 then decide (v.getD j 0=2)else f j)):=by
   refine xX a λj l=>?_
   by_cases c:j=i
   ·subst c;simp only [Nat.lt_succ_self,if_true,n]
   ·by_cases d:j<i
    ·simp only [if_neg c,if_pos d,if_pos (Nat.lt_succ_of_lt d)]
    ·simp only [if_neg c,if_neg d,if_neg (show¬j<i+1 by omega)]
  have t:(v.getD i 0=2/\f i=false)->set' ((List.range R).map λj=>if j<i then g j+(if v.getD j 0=2/\f j=false then 1 else 0)else g j) (i:Int) (g i+1)=some ((List.range R).map λj=>if j<i+1 then g j+(if v.getD j 0=2/\f j=false then 1 else 0)else g j):=λq=>by
   refine xX a λj l=>?_
   by_cases c:j=i
   ·subst c;simp only [Nat.lt_succ_self,if_true,if_pos q]
   ·by_cases d:j<i
    ·simp only [if_neg c,if_pos d,if_pos (Nat.lt_succ_of_lt d)]
    ·simp only [if_neg c,if_neg d,if_neg (show¬j<i+1 by omega)]
  have p: ¬(v.getD i 0=2/\f i=false)->((List.range R).map λj=>if j<i then g j+(if v.getD j 0=2/\f j=false then 1 else 0)else g j)=((List.range R).map λj=>if j<i+1 then g j+(if v.getD j 0=2/\f j=false then 1 else 0)else g j):=λq=>by
   refine xP λj l=>?_
   by_cases c:j=i
   ·subst c;simp only [Nat.lt_irrefl,if_false,Nat.lt_succ_self,if_true,if_neg q,Int.add_zero]
   ·by_cases d:j<i
    ·simp only [if_pos d,if_pos (Nat.lt_succ_of_lt d)]
    ·simp only [if_neg d,if_neg (show¬j<i+1 by omega)]
  have h:=aDx (λj=>if j<i then decide (v.getD j 0=2)else f j) a;have a2:=aDx (λj=>if j<i then g j+(if v.getD j 0=2/\f j=false then 1 else 0)else g j) a;rw [if_neg (Nat.lt_irrefl i)]at h a2;simp only [zG];rw [yP hi,zS,yH o,zA]
  by_cases c:x=2
  ·rw [dT c,zS,h,zA];rw [dT c]at e
   cases hf:f i
   ·rw [hf]at h;simp only [Bool.not_false,zA,zS];rw [a2,zA,zA,wrap_i64 (by omega) (by omega),t ⟨by rw [n];exact c,hf⟩,zA,zA,e,zA,fP hi (by omega)]
   ·rw [hf]at h;simp only [Bool.not_true,zA,zM];rw [e,zA,fP hi (by omega),p (λq=>by rw [hf]at q;cases q.2)]
  ·rw [qD c]at e;rw [qD c,zM,zA,zM,zA,h,zA,e,zA,fP hi (by omega),p (λq=>c (by rw [<-n];exact q.1))]
 ·intro k;simp only [zG];rw [yO,zM]
  congr 2
  ·exact xP λj l=>by rw [if_pos (by omega)]
  ·exact xP λj l=>by rw [if_pos (by omega)]
def pU (r:Rules)(l:List gW)(a:Int)(t j:Nat):List Int:=(runT (tel l a) (fF r l) t).1.map λrow=>row.getD j 0
theorem wM (r:Rules)(l:List gW)(a:Int)(t j:Nat):(pU r l a t j).length=t:=by unfold pU;rw [List.length_map,aMb]
theorem aGo (r:Rules)(l:List gW)(a:Int)(t j:Nat):pU r l a (t+1) j=pU r l a t j++[(nxt (tel l a t) (runT (tel l a) (fF r l) t).2).1.getD j 0]:=by
 unfold pU;rw [runT,List.map_append,List.map_singleton]
theorem aAk (r:Rules)(l:List gW)(a b:Int):evV r l a b=(List.range r.Rules.length).map λj=>pU r l a (spn a b) j:=rfl
theorem aSm {r:Rules}{l:List gW}(a:Int)(t:Nat):(nxt (tel l a t) (runT (tel l a) (fF r l) t).2).1.length=r.Rules.length:=by
 rw [(aAi _ _).1,aYm]
theorem aTc {r:Rules}{f:Flight}{l:List gW} (b:GB r l) (g:Good f) (c:r.Rules.length<=1000):
  Ffb f l (f.From,(List.range r.Rules.length).map (λ_=>false),(List.range r.Rules.length).map (λ_=>(0:Int)),(fF r l).phases,(fF r l).tracks,(fF r l).moves,(fF r l).rules,(fF r l).possible)=some ((List.range r.Rules.length).map (λj=>aFi false (pU r l f.From (spn f.From f.To) j)),(List.range r.Rules.length).map λj=>(qW false (pU r l f.From (spn f.From f.To) j):Int)):=by
 have fr:=g.frm;have q:=g.span;have s:spn f.From f.To=(f.To-f.From+1).toNat:=rfl;unfold Ffb;have d:(f.From,(List.range r.Rules.length).map (λ_=>false),(List.range r.Rules.length).map (λ_=>(0:Int)),(fF r l).phases,(fF r l).tracks,(fF r l).moves,(fF r l).rules,(fF r l).possible)=(λ(t:Nat)=>(f.From+(t:Int),(List.range r.Rules.length).map (λj=>aFi false (pU r l f.From t j)),(List.range r.Rules.length).map (λj=>(qW false (pU r l f.From t j):Int)),(runT (tel l f.From) (fF r l) t).2.phases,(runT (tel l f.From) (fF r l) t).2.tracks,(runT (tel l f.From) (fF r l) t).2.moves,(runT (tel l f.From) (fF r l) t).2.rules,(runT (tel l f.From) (fF r l) t).2.possible)) 0:=by
  have:f.From+((0:Nat):Int)=f.From:=by omega
  dsimp only;rw [this];rfl
 rw [d];have a:(List.replicate (spn f.From f.To) ()).length=spn f.From f.To:=List.length_replicate;refine xJ (λ(t:Nat)=>(f.From+(t:Int),(List.range r.Rules.length).map (λj=>aFi false (pU r l f.From t j)),(List.range r.Rules.length).map (λj=>(qW false (pU r l f.From t j):Int)),(runT (tel l f.From) (fF r l) t).2.phases,(runT (tel l f.From) (fF r l) t).2.tracks,(runT (tel l f.From) (fF r l) t).2.moves,(runT (tel l f.From) (fF r l) t).2.rules,(runT (tel l f.From) (fF r l) t).2.possible)) (List.replicate (spn f.From f.To) ()) _ (by rw [a];omega) ?_ ?_
 ·rintro k t _-e;rw [a]at e;obtain⟨h,i,n⟩:=aTw b t fr.1 (by omega:f.From+(t:Int)<=4194303);have o:=aWa (v:=(nxt (tel l f.From t) (runT (tel l f.From) (fF r l) t).2).1) (phL (runT (tel l f.From) (fF r l) (t+1)).2.possible r.Phases) (aSm f.From t) c (λj=>aFi false (pU r l f.From t j)) (λj=>(qW false (pU r l f.From t j):Int)) (λj _=>by have:=bAd (pU r l f.From t j) false;rw [wM]at this;omega);simp only [zG];rw [dT (by omega:f.From+(t:Int)<=f.To),zS];unfold Fda Fc1;rw [h,zA,zA];show gB (gB (Fbg (runT (tel l f.From) (fF r l) t).2 _) _) _=_;rw [i,zA,zA];show gB (Fa4 (nxt (tel l f.From t) (runT (tel l f.From) (fF r l) t).2).2) _=_;rw [n,zA,o,zA,wrap_i64 (by omega) (by omega)];have p:(List.range r.Rules.length).map (λj=>decide ((nxt (tel l f.From t) (runT (tel l f.From) (fF r l) t).2).1.getD j 0=2))=(List.range r.Rules.length).map (λj=>aFi false (pU r l f.From (t+1) j)):=xP λj _=>by rw [aGo,aJl]
  have c2:((List.range r.Rules.length).map λj=>(qW false (pU r l f.From t j):Int)+if (nxt (tel l f.From t) (runT (tel l f.From) (fF r l) t).2).1.getD j 0=2/\aFi false (pU r l f.From t j)=false then 1 else 0)=(List.range r.Rules.length).map λj=>(qW false (pU r l f.From (t+1) j):Int):=xP λj _=>by
   rw [aGo,aOg];split<;>simp
  rw [p,c2,show f.From+(t:Int)+1=f.From+((t+1:Nat):Int)by omega];rfl
 ·intro k;rw [a];simp only [zG];rw [qD (by omega: ¬f.From+((spn f.From f.To:Nat):Int)<=f.To),zM]
theorem aCh {a:Type}(x:a): ∀n,List.replicate n x=(List.range n).map λ_=>x:=λn=>by
 refine List.ext_getElem? λj=>?_
 by_cases h:j<n
 ·rw [rZ (λ_=>x) h,List.getElem?_replicate_of_lt h]
 ·rw [List.getElem?_eq_none (by simp;omega),List.getElem?_eq_none (by simp;omega)]
theorem aGp {r:Rules}(a:okR r)(h:chk r=some 0){f:Flight}(g:Good f):Fb8 f r=some ((List.range r.Rules.length).map λj=>(qW false (pU r (tkF f r) f.From (spn f.From f.To) j):Int)):=by
 have c:=nC a h;have d:=c.l;have b:=aXr a h g.trk;unfold Fb8;have m1:make' 8 (r.Rules.length:Int) (0:Int)=some ((List.range r.Rules.length).map λ_=>(0:Int)):=by
  unfold make';rw [if_pos ⟨by omega,by omega,by omega⟩,Int.toNat_natCast,aCh]
 have m2:make' 1 (r.Rules.length:Int) false=some ((List.range r.Rules.length).map λ_=>false):=by
  unfold make';rw [if_pos ⟨by omega,by omega,by omega⟩,Int.toNat_natCast,aCh]
 simp only [zG];rw [m1,zA,m2,zA];unfold Fha Fdh;rw [aEn a h (by have:=g.many;omega),zA,aHn b,zA,zA,aTc b g (by omega),zA]
theorem aVi (f:Nat->List fJ): ∀(n:Nat),(∀k,k<n-> ∀x∈f k,x.Rule=(k:Int))-> ∀i:Nat,((((List.range n).map f).flatten).filter λx=>decide (x.Rule=(i:Int))).length=if i<n then(f i).length else 0
 |0,_,i=>by simp
 |n+1,b,i=>by
  have j:=aVi f n (λk _=>b k (by omega)) i;have h:=b n (by omega);have l:((List.range (n+1)).map f).flatten=((List.range n).map f).flatten++f n:=by
   rw [List.range_succ,List.map_append,List.flatten_append];simp
  rw [l,List.filter_append,List.length_append,j]
  by_cases c:i=n
  ·subst c;have e:(f i).filter (λx=>decide (x.Rule=(i:Int)))=f i:=List.filter_eq_self.2 λx a=>dT (h x a)
   rw [e,if_neg (Nat.lt_irrefl i),if_pos (Nat.lt_succ_self i),Nat.zero_add]
  ·have e:(f n).filter (λx=>decide (x.Rule=(i:Int)))=[]:=List.filter_eq_nil_iff.2 λx a=>by
    rw [h x a];simp only [decide_eq_true_eq];omega
   rw [e,List.length_nil,Nat.add_zero]
   by_cases d:i<n
   ·rw [if_pos d,if_pos (by omega)]
   ·rw [if_neg d,if_neg (by omega)]
theorem evsR_all2 {a:Int} (y:0<=a/\a<=4194304) (b:List (List Int)) (z:b.length<=1000) (u: ∀x∈b,x.length<=20000): ∃E:List fJ,Fd9 b a=some E/\E.length<=20000000/\(∀x∈E,∃i:Nat,i<b.length/\x.Rule=(i:Int))/\ ∀(i:Nat) l,b[i]? =some l->(E.filter λx=>decide (x.Rule=(i:Int))).length=qW false l:=by
 obtain⟨f,e⟩: ∃f:Nat->List fJ,∀(i:Nat) l,b[i]? =some l->aNj a (i:Int) l 0 (f i)/\(f i).length<=l.length:=by
  have q: ∀i:Nat,∃j:List fJ,∀l,b[i]? =some l->aNj a (i:Int) l 0 j/\j.length<=l.length:=by
   intro i
   cases h:b[i]? with
   |none=>exact⟨[],λl c=>by cases c⟩
   |some l=>
    obtain⟨j,A,B⟩:=aWg a (i:Int) l l.length 0 (by omega);exact⟨j,λ_ c=>by obtain rfl:=oI c;exact⟨A,B⟩⟩
  exact⟨λi=>Classical.choose (q i),λi=>Classical.choose_spec (q i)⟩
 have v: ∀i:Nat,((List.range (i+1)).map f).flatten=((List.range i).map f).flatten++f i:=λi=>by
  rw [List.range_succ,List.map_append,List.flatten_append];simp
 have w: ∀i,i<=b.length->(((List.range i).map f).flatten).length<=i*20000:=by
  intro i
  induction i with
  |zero=>intro _;simp
  |succ i C=>
   intro hi;obtain⟨l,c⟩: ∃l,b[i]? =some l:=⟨_,gE (by omega)⟩;have q:=(e i l c).2;have n:=u l (qS c);have:=C (by omega);rw [v,List.length_append,Nat.succ_mul];omega
 refine⟨((List.range b.length).map f).flatten,?_,?_,λx o=>?_,λi l c=>?_⟩
 ·have p:Ffo b a ([],0)=some (((List.range b.length).map f).flatten):=by
   unfold Ffo;have D:(([]:List fJ),(0:Int))=(λ(i:Nat)=>(((List.range i).map f).flatten,(i:Int))) 0:=rfl;rw [D];refine xJ (λ(i:Nat)=>(((List.range i).map f).flatten,(i:Int))) b _ (by omega) ?_ ?_
   ·intro k i l c hi;have H:=w i (by omega);have q:=e i l c;have n:=u l (qS c);have t:i*20000<=1000*20000:=Nat.mul_le_mul_right _ (by omega);have r:Fh1 b a (i:Int) (((List.range i).map f).flatten,0)=some (((List.range i).map f).flatten++f i):=evR_ok y (by omega) c q.1 _ FU (jO (by omega)) (by omega) (Nat.zero_le _) (λh=>absurd h (Nat.lt_irrefl 0));simp only [zG];rw [yP hi,zS,r,zA,fP hi (by omega),v]
   ·intro k;simp only [zG];rw [yO,zM]
  unfold Fd9;rw [p,zA]
 ·have:=w b.length (Nat.le_refl _);have t:b.length*20000<=1000*20000:=Nat.mul_le_mul_right _ z;omega
 ·obtain⟨_,F,o⟩:=List.mem_flatten.1 o;obtain⟨k,d,rfl⟩:=List.mem_map.1 F;have d:=List.mem_range.1 d;obtain⟨m,hm⟩: ∃m,b[k]? =some m:=⟨_,gE d⟩;exact⟨k,d,(aRo (e k m hm).1).1 x o⟩
 ·have hi:=(gS.1 c).1;obtain⟨_,n⟩:=aRo (e i l c).1;rw [aVi f b.length (λk d=>by
   obtain⟨m,hm⟩: ∃m,b[k]? =some m:=⟨_,gE d⟩;exact(aRo (e k m hm).1).1) i,if_pos hi,n false (λq=>by cases q),List.drop_zero]
theorem refL1_eq {E:List fJ}{R:Nat} (l:E.length<=20000000) (d: ∀x∈E,∃i:Nat,i<R/\x.Rule=(i:Int)):
  Ffx E (0,(List.range R).map λ_=>(0:Int))=some ((List.range R).map λi:Nat=>((E.filter λx=>decide (x.Rule=(i:Int))).length:Int)):=by
 unfold Ffx;have f:((0:Int),(List.range R).map λ_=>(0:Int))=(λ(k:Nat)=>((k:Int),(List.range R).map λi:Nat=>(((E.take k).filter λx=>decide (x.Rule=(i:Int))).length:Int))) 0:=rfl;rw [f,xJ (λ(k:Nat)=>((k:Int),(List.range R).map λi:Nat=>(((E.take k).filter λx=>decide (x.Rule=(i:Int))).length:Int))) E _ (by omega) ?_ ?_]
 ·intro h k x a b;obtain⟨i,hi,e⟩:=d x (qS a);have n:((E.take k).filter λx=>decide (x.Rule=(i:Int))).length<=20000000:=by
   have:=List.length_filter_le (λx:fJ=>decide (x.Rule=(i:Int))) (E.take k);rw [List.length_take]at this;omega
  simp only [zG];rw [yP b,zS,yH a,zA,e,aDx (λi:Nat=>(((E.take k).filter λx=>decide (x.Rule=(i:Int))).length:Int)) hi,zA,zA,wrap_i64 (by omega) (by omega)];rw [xX (g:=λi:Nat=>(((E.take (k+1)).filter λx=>decide (x.Rule=(i:Int))).length:Int)) hi (λj _=>?_),zA,fP b (by omega)];rw [kG a,List.filter_append,List.length_append]
  by_cases c:j=i
  ·subst c;rw [if_pos rfl,List.filter_cons_of_pos (by rw [e];simp),List.filter_nil,List.length_singleton];simp
  ·rw [if_neg c,List.filter_cons_of_neg (by rw [e];simp;omega),List.filter_nil,List.length_nil,Nat.add_zero]
 ·intro h;simp only [zG];rw [yO,zM,List.take_length]
theorem aGm {f:Flight}(g:Good f):aHj f.From f.To=0:=by
 have fr:=g.frm;have a:=g.span;unfold aHj;rw [if_neg (by omega),if_neg (by omega)]
theorem evV_shape {r:Rules}{l:List gW}{f:Flight}(g:Good f)(_:r.Rules.length<=1000):(0<=f.From/\f.From<=4194304)/\(evV r l f.From f.To).length=r.Rules.length/\ ∀x∈evV r l f.From f.To,x.length<=20000:=by
 have fr:=g.frm;have c:=g.span;have d:spn f.From f.To=(f.To-f.From+1).toNat:=rfl;refine⟨⟨by omega,by omega⟩,wR _ _,λx a=>?_⟩;rw [aAk]at a;obtain⟨_,_,rfl⟩:=List.mem_map.1 a;rw [wM];omega
theorem aYw {r:Rules}(a:okR r)(h:chk r=some 0){f:Flight}(g:Good f):Fcl f r=some ((List.range r.Rules.length).map λj=>(qW false (pU r (flF f r) f.From (spn f.From f.To) j):Int)):=by
 have b:=nC a h;have t:=b.l;have c:=aYu a h g;obtain⟨s1,_,d⟩:=evV_shape (r:=r) (l:=flF f r) g (by omega);obtain⟨_,e,k,n,o⟩:=evsR_all2 s1 (evV r (flF f r) f.From f.To) (by omega) d;unfold Fcl;have m1:make' 8 (r.Rules.length:Int) (0:Int)=some ((List.range r.Rules.length).map λ_=>(0:Int)):=by
  unfold make';rw [if_pos ⟨by omega,by omega,by omega⟩,Int.toNat_natCast,aCh]
 simp only [zG];rw [m1,zA,aZy a h (by have:=g.many;omega),zA,aOb c (aGm g),zA,e,zA,refL1_eq k (λx p=>by obtain⟨i,_,q⟩:=n x p;exact⟨i,by omega,q⟩),zA]
 congr 1
 refine xP λj s=>?_
 rw [o j (pU r (flF f r) f.From (spn f.From f.To) j) (by rw [aAk];exact rZ _ s)]
theorem aUw {r:Rules}(b:okR r)(h:chk r=some 0){f:Flight}(g:Good f):Fcl f r=Fb8 f r:=by
 rw [aYw b h g,aGp b h g];have e:=(fl_two b h g f.From f.To).1;rw [aAk,aAk]at e;congr 1;refine xP λj c=>?_;have a:=rZ (λj=>pU r (tkF f r) f.From (spn f.From f.To) j) c;rw [e,rZ (λj=>pU r (flF f r) f.From (spn f.From f.To) j) c]at a;rw [oI a]
def exC (l:List (Int×List Str))(s:Str):Nat:=(l.filter λq=>decide (q.1=2/\q.2=[s])).length
theorem aVv (l:List (Int×List Str))(x:Int)(p:List Str)(s:Str):exC (l++[(x,p)]) s=exC l s+if x=2/\p=[s]then 1 else 0:=by
 unfold exC;rw [List.filter_append,List.length_append];by_cases c:x=2/\p=[s];rw [List.filter_cons_of_pos (by simpa using c),List.filter_nil,List.length_singleton,if_pos c];rw [List.filter_cons_of_neg (by simpa using c),List.filter_nil,List.length_nil,if_neg c]
theorem exC_le (l:List (Int×List Str))(s:Str):exC l s<=l.length:=List.length_filter_le _ _
theorem qH {a:Type}(f:Nat->a)(n:Nat):((List.range n).map f).length=n:=by simp
def pO (P:List Str)(x:Int)(p:List Str)(k:Nat):Int:=if x=2/\p=[P.getD k []]then 1 else 0
theorem aYi {r:Rules} (w:r.Phases.length<=20) (y: ∀(i:Nat) x,r.Phases[i]? =some x->x∉r.Phases.take i) {v:List Int}{p:List Str} (o: ∀s∈p,s∈r.Phases) {R:Nat} (F:v.length=R) (G:R<=1000) (g:Nat->Nat->Int) (z: ∀j k,j<R->k<r.Phases.length->0<=g j k/\g j k<=1000000):
  Fcv v p r ((List.range R).map λj=>(List.range r.Phases.length).map (g j))=some ((List.range R).map λj=>(List.range r.Phases.length).map λk=>g j k+pO r.Phases (v.getD j 0) p k):=by
 unfold Fcv;simp only [zG]
 by_cases f:(p.length:Int)≠1
 ·rw [dT f,zS]
  congr 1
  refine xP λj _=>xP λk _=>?_
  unfold pO;rw [if_neg,Int.add_zero];rintro⟨_,q⟩;rw [q]at f;exact f rfl
 ·obtain⟨s,rfl⟩: ∃s,p=[s]:=by
   match p,f with
   | [],c=>exact absurd (by simp) c
   | [s],_=>exact⟨s,rfl⟩
   |_::_::_,c=>exact absurd (by simp only [List.length_cons,ne_eq];omega) c
  obtain⟨_,⟨A,_⟩,B⟩:=bBc w y (o s (mS.2 rfl));obtain⟨l,h⟩:=Int.eq_ofNat_of_zero_le A;have kl:l<r.Phases.length:=by omega
  have a0:at' [s] (0:Int)=some s:=rfl;have same: ∀k,k<r.Phases.length->(([s]:List Str)=[r.Phases.getD k []]↔k=l):=λk n=>by
   rw [List.cons.injEq,and_iff_left rfl,B k _ (getD_at n),h];omega
  rw [qD f,zM,a0,zA,(aBg r.Phases s (by omega)).1,zA,h];unfold Fh3;have C:((0:Int),(List.range R).map λj=>(List.range r.Phases.length).map (g j))=(λ(i:Nat)=>((i:Int),(List.range R).map λj=>(List.range r.Phases.length).map λk=>if j<i then g j k+pO r.Phases (v.getD j 0) [s] k else g j k)) 0:=by
   dsimp only;simp only [Nat.not_lt_zero,if_false];rfl
  rw [C,xJ (λ(i:Nat)=>((i:Int),(List.range R).map λj=>(List.range r.Phases.length).map λk=>if j<i then g j k+pO r.Phases (v.getD j 0) [s] k else g j k)) v (some ((List.range R).map λj=>(List.range r.Phases.length).map λk=>g j k+pO r.Phases (v.getD j 0) [s] k)) (by omega) ?_ ?_]
  ·intro D i x t hi;have a:i<R:=by omega
   have u:v.getD i 0=x:=by rw [List.getD_eq_getElem?_getD,t];rfl
   simp only [zG];rw [yP hi,zS,yH t,zA,fP hi (by omega)]
   by_cases c:x=2
   ·have b:=z i l a kl;rw [dT c,zS,aDx (λj=>(List.range r.Phases.length).map λk=>if j<i then g j k+pO r.Phases (v.getD j 0) [s] k else g j k) a,zA];simp only [Nat.lt_irrefl,if_false];rw [aDx (λk=>g i k) kl,zA,wrap_i64 (by omega) (by omega)];rw [xX (g:=λk=>g i k+pO r.Phases (v.getD i 0) [s] k) kl (λk n=>?_),zA]
    ·rw [xX (g:=λj=>(List.range r.Phases.length).map λk=>if j<i+1 then g j k+pO r.Phases (v.getD j 0) [s] k else g j k) a (λj E=>?_),zA,zA]
     by_cases d:j=i
     ·subst d;simp only [Nat.lt_succ_self,if_true]
     ·rw [if_neg d];refine xP λk _=>?_
      by_cases e:j<i
      ·simp only [if_pos e,if_pos (Nat.lt_succ_of_lt e)]
      ·simp only [if_neg e,if_neg (show¬j<i+1 by omega)]
    ·unfold pO
     by_cases d:k=l
     ·rw [if_pos d,if_pos ⟨by rw [u];exact c,(same k n).2 d⟩,d]
     ·rw [if_neg d,if_neg (λq=>d ((same k n).1 q.2)),Int.add_zero]
   ·rw [qD c,zM,zA];have:((List.range R).map λj=>(List.range r.Phases.length).map λk=>if j<i then g j k+pO r.Phases (v.getD j 0) [s] k else g j k)=((List.range R).map λj=>(List.range r.Phases.length).map λk=>if j<i+1 then g j k+pO r.Phases (v.getD j 0) [s] k else g j k):=xP λj _=>xP λk _=>by
     by_cases d:j=i
     ·subst d;have:pO r.Phases (v.getD j 0) [s] k=0:=by unfold pO;rw [if_neg (λq=>c (by rw [<-u];exact q.1))]
      simp only [Nat.lt_irrefl,if_false,Nat.lt_succ_self,if_true,this,Int.add_zero]
     ·by_cases e:j<i
      ·simp only [if_pos e,if_pos (Nat.lt_succ_of_lt e)]
      ·simp only [if_neg e,if_neg (show¬j<i+1 by omega)]
    rw [this]
  ·intro D;simp only [zG];rw [yO,zM]
   congr 1
   exact xP λj E=>xP λk _=>by rw [if_pos (by omega)]
def phT (r:Rules)(l:List gW)(a:Int)(t:Nat):List (List Str):=(List.range t).map (aEi r l a)
theorem aZl (r:Rules)(l:List gW)(a:Int)(t:Nat):(phT r l a t).length=t:=qH _ _
theorem phT_next (r:Rules)(l:List gW)(a:Int)(t:Nat):phT r l a (t+1)=phT r l a t++[aEi r l a t]:=by
 unfold phT;rw [List.range_succ,List.map_append,List.map_singleton]
def xT (r:Rules)(l:List gW)(a:Int)(t j k:Nat):Int:=(exC ((pU r l a t j).zip (phT r l a t)) (r.Phases.getD k []):Int)
theorem xT_next (r:Rules)(l:List gW)(a:Int)(t j k:Nat):xT r l a (t+1) j k=xT r l a t j k+pO r.Phases ((nxt (tel l a t) (runT (tel l a) (fF r l) t).2).1.getD j 0) (aEi r l a t) k:=by
 unfold xT pO;rw [aGo,phT_next,List.zip_append (by rw [wM,aZl]),List.zip_cons_cons,List.zip_nil_left,aVv];split<;>simp
theorem xT_le (r:Rules)(l:List gW)(a:Int)(t j k:Nat):0<=xT r l a t j k/\xT r l a t j k<=(t:Int):=by
 unfold xT;have h:=exC_le ((pU r l a t j).zip (phT r l a t)) (r.Phases.getD k []);rw [List.length_zip,wM,aZl]at h;omega
theorem phsT_mem {r:Rules}{l:List gW}{a:Int}{t:Nat}: ∀s∈aEi r l a t,s∈r.Phases:=λs b=>by
 unfold aEi at b;obtain⟨_,_,h⟩:=(aRt _ _ s).1 b;exact qS h
def wE (r:Rules)(l:List gW)(a:Int)(t:Nat):List (List Int):=(List.range r.Rules.length).map λj=>(List.range r.Phases.length).map λk=>xT r l a t j k
theorem aTq {r:Rules}{f:Flight}{l:List gW} (c:GB r l) (g:Good f):
  Fgu f r l (f.From,wE r l f.From 0,(fF r l).phases,(fF r l).tracks,(fF r l).moves,(fF r l).rules,(fF r l).possible)=some (wE r l f.From (spn f.From f.To)):=by
 have fr:=g.frm;have q:=g.span;have a:=c.g;have s:spn f.From f.To=(f.To-f.From+1).toNat:=rfl;unfold Fgu;have d:(f.From,wE r l f.From 0,(fF r l).phases,(fF r l).tracks,(fF r l).moves,(fF r l).rules,(fF r l).possible)=(λ(t:Nat)=>(f.From+(t:Int),wE r l f.From t,(runT (tel l f.From) (fF r l) t).2.phases,(runT (tel l f.From) (fF r l) t).2.tracks,(runT (tel l f.From) (fF r l) t).2.moves,(runT (tel l f.From) (fF r l) t).2.rules,(runT (tel l f.From) (fF r l) t).2.possible)) 0:=by
  have:f.From+((0:Nat):Int)=f.From:=by omega
  dsimp only;rw [this];rfl
 rw [d];have b:(List.replicate (spn f.From f.To) ()).length=spn f.From f.To:=List.length_replicate;refine xJ (λ(t:Nat)=>(f.From+(t:Int),wE r l f.From t,(runT (tel l f.From) (fF r l) t).2.phases,(runT (tel l f.From) (fF r l) t).2.tracks,(runT (tel l f.From) (fF r l) t).2.moves,(runT (tel l f.From) (fF r l) t).2.rules,(runT (tel l f.From) (fF r l) t).2.possible)) (List.replicate (spn f.From f.To) ()) _ (by rw [b];omega) ?_ ?_
 ·rintro k t _-e;rw [b]at e;obtain⟨h,i,n⟩:=aTw c t fr.1 (by omega:f.From+(t:Int)<=4194303);have o:=aYi a.p a.pd (v:=(nxt (tel l f.From t) (runT (tel l f.From) (fF r l) t).2).1) (p:=aEi r l f.From t) phsT_mem (aSm f.From t) (by have:=a.l;omega) (λj k=>xT r l f.From t j k) (λj k _ _=>by have:=xT_le r l f.From t j k;omega);simp only [zG];rw [dT (by omega:f.From+(t:Int)<=f.To),zS];unfold Fda Fc1;rw [h,zA,zA];show gB (gB (Fbg (runT (tel l f.From) (fF r l) t).2 _) _) _=_;rw [i,zA,zA];show gB (Fa4 (nxt (tel l f.From t) (runT (tel l f.From) (fF r l) t).2).2) _=_;rw [n,zA];show gB (Fcv _ (aEi r l f.From t) r (wE r l f.From t)) _=_;unfold wE;rw [o,zA,wrap_i64 (by omega) (by omega)];have c2:((List.range r.Rules.length).map λj=>(List.range r.Phases.length).map λk=>xT r l f.From t j k+pO r.Phases ((nxt (tel l f.From t) (runT (tel l f.From) (fF r l) t).2).1.getD j 0) (aEi r l f.From t) k)=(List.range r.Rules.length).map λj=>(List.range r.Phases.length).map λk=>xT r l f.From (t+1) j k:=xP λj _=>xP λk _=>(xT_next r l f.From t j k).symm
  rw [c2,show f.From+(t:Int)+1=f.From+((t+1:Nat):Int)by omega];rfl
 ·intro k;rw [b];simp only [zG];rw [qD (by omega: ¬f.From+((spn f.From f.To:Nat):Int)<=f.To),zM]
theorem fill_eq {r:Rules} (f:r.Phases.length<=20) (h:r.Rules.length<=60) (l:List gW) (a:Int):Ffu r (r.Rules.length:Int) (0,(List.range r.Rules.length).map λ_=>([]:List Int))=some (wE r l a 0):=by
 have z: ∀j k,xT r l a 0 j k=0:=λj k=>by have:=xT_le r l a 0 j k;omega
 have m1:make' 8 (r.Phases.length:Int) (0:Int)=some ((List.range r.Phases.length).map λ_=>(0:Int)):=by
  unfold make';rw [if_pos ⟨by omega,by omega,by omega⟩,Int.toNat_natCast,aCh]
 unfold Ffu wE;simp only [z];have e:((0:Int),(List.range r.Rules.length).map λ_=>([]:List Int))=(λ(i:Nat)=>((i:Int),(List.range r.Rules.length).map λj=>if j<i then(List.range r.Phases.length).map (λ_=>(0:Int))else [])) 0:=by
  dsimp only;simp only [Nat.not_lt_zero,if_false];rfl
 rw [e,xJ (λ(i:Nat)=>((i:Int),(List.range r.Rules.length).map λj=>if j<i then(List.range r.Phases.length).map (λ_=>(0:Int))else [])) r.Rules _ (by omega) ?_ ?_]
 ·intro k i _ _ hi;simp only [zG];rw [yP hi,zS,m1,zA,aDx (λj=>if j<i then(List.range r.Phases.length).map (λ_=>(0:Int))else []) hi,zA,fP hi (by omega)];rw [xX (g:=λj=>if j<i+1 then(List.range r.Phases.length).map (λ_=>(0:Int))else []) hi (λj b=>?_),zA]
  by_cases c:j=i
  ·subst c;simp only [Nat.lt_succ_self,if_true]
  ·rw [if_neg c]
   by_cases d:j<i
   ·rw [if_pos d,if_pos (by omega)]
   ·rw [if_neg d,if_neg (by omega)]
 ·intro k;simp only [zG];rw [yO,zM]
  congr 1
  exact xP λj b=>by rw [if_pos b]
theorem exceed_eq {r:Rules}(a:okR r)(h:chk r=some 0){f:Flight}(g:Good f)(d:Fbw f r=some 0):Fby f r=some (wE r (tkF f r) f.From (spn f.From f.To),0):=by
 have b:=nC a h;have e:=b.l;have c:=aXr a h g.trk;have m1:make' 24 (r.Rules.length:Int) ([]:List Int)=some ((List.range r.Rules.length).map λ_=>([]:List Int)):=by
  unfold make';rw [if_pos ⟨by omega,by omega,by omega⟩,Int.toNat_natCast,aCh]
 unfold Fby;rw [d,zA];simp only [zG];rw [qD (by simp),zM,m1,zA,qH,fill_eq b.p e (tkF f r) f.From,zA];unfold Fgv Fdh;rw [aEn a h (by have:=g.many;omega),zA,aHn c,zA,zA,aTq c g,zA]
theorem refL3_eq {r:Rules} (A:r.Phases.length<=20) {V:List (List Int)}{Q:List (List Str)}{i t:Nat}{c:List Int}{x:Int}{p:List Str} (e:V[i]? =some c) (a:c[t]? =some x) (f:Q[t]? =some p) (g:Nat->Int) (o: ∀k,k<r.Phases.length->0<=g k/\g k<=1000000):
  Fgf r V Q (i:Int) (t:Int) (0,(List.range r.Phases.length).map g)=some ((List.range r.Phases.length).map λk=>g k+pO r.Phases x p k):=by
 unfold Fgf
 by_cases c2:x=2/\(p.length:Int)=1
 ·obtain⟨s,rfl⟩: ∃s,p=[s]:=by
   match p,c2.2 with
   | [],c=>exact absurd c (by simp)
   | [s],_=>exact⟨s,rfl⟩
   |_::_::_,c=>exact absurd c (by simp only [List.length_cons];omega)
  have v:((0:Int),(List.range r.Phases.length).map g)=(λ(m:Nat)=>((m:Int),(List.range r.Phases.length).map λk=>if k<m then g k+pO r.Phases x [s] k else g k)) 0:=by
   dsimp only;simp only [Nat.not_lt_zero,if_false];rfl
  rw [v,xJ (λ(m:Nat)=>((m:Int),(List.range r.Phases.length).map λk=>if k<m then g k+pO r.Phases x [s] k else g k)) r.Phases _ (by omega) ?_ ?_]
  ·intro h m u j hm;have l:r.Phases.getD m []=u:=by rw [List.getD_eq_getElem?_getD,j];rfl
   have b:=o m hm;have a0:at' [s] (0:Int)=some s:=rfl;simp only [zG];rw [yP hm,zS,yH e,zA,yH a,zA,dT c2.1,zA,zS,yH f,zA,dT c2.2,zA,zS,zA,a0,zA,yH j,zA,fP hm (by omega)]
   by_cases d:s=u
   ·rw [dT d,zS,aDx (λk=>if k<m then g k+pO r.Phases x [s] k else g k) hm,zA];simp only [Nat.lt_irrefl,if_false];rw [wrap_i64 (by omega) (by omega),zA];rw [xX (g:=λk=>if k<m+1 then g k+pO r.Phases x [s] k else g k) hm (λk n=>?_),zA,zA]
    by_cases q:k=m
    ·subst q;have:pO r.Phases x [s] k=1:=by unfold pO;rw [if_pos ⟨c2.1,by rw [l,d]⟩]
     simp only [Nat.lt_succ_self,if_true,this]
    ·by_cases w:k<m
     ·simp only [if_neg q,if_pos w,if_pos (Nat.lt_succ_of_lt w)]
     ·simp only [if_neg q,if_neg w,if_neg (show¬k<m+1 by omega)]
   ·rw [qD d,zM,zA];have:((List.range r.Phases.length).map λk=>if k<m then g k+pO r.Phases x [s] k else g k)=((List.range r.Phases.length).map λk=>if k<m+1 then g k+pO r.Phases x [s] k else g k):=xP λk _=>by
     by_cases q:k=m
     ·subst q;have:pO r.Phases x [s] k=0:=by
       unfold pO;rw [if_neg];rintro⟨_,w⟩;rw [l]at w;exact d (List.cons.inj w).1
      simp only [Nat.lt_irrefl,if_false,Nat.lt_succ_self,if_true,this,Int.add_zero]
     ·by_cases w:k<m
      ·simp only [if_pos w,if_pos (Nat.lt_succ_of_lt w)]
      ·simp only [if_neg w,if_neg (show¬k<m+1 by omega)]
    rw [this]
  ·intro h;simp only [zG];rw [yO,zM,zA,zM,zA,zM]
   congr 1
   exact xP λk n=>by rw [if_pos n]
 ·have same:((List.range r.Phases.length).map λk=>g k+pO r.Phases x p k)=(List.range r.Phases.length).map g:=xP λk _=>by
   unfold pO;rw [if_neg,Int.add_zero];rintro⟨y,z⟩;exact c2 ⟨y,by rw [z];rfl⟩
  rw [same];refine xJ (λ(m:Nat)=>((m:Int),(List.range r.Phases.length).map g)) ([]:List Unit) _ (by simp) (λ_ _ _ a=>by simp at a) λh=>?_
  simp only [zG,List.length_nil]
  cases decide (((0:Nat):Int)<(r.Phases.length:Int))
  ·rw [zM,zA,zM,zA,zM]
  ·rw [zS,yH e,zA,yH a,zA,zA]
   by_cases d:x=2
   ·rw [dT d,zS,yH f,zA,qD (λq=>c2 ⟨d,q⟩),zA,zM]
   ·rw [qD d,zM,zA,zM]
theorem refL2_eq {r:Rules} (l:r.Phases.length<=20) {V:List (List Int)}{Q:List (List Str)}{i:Nat}{c:List Int} (a:V[i]? =some c) (d:c.length=Q.length) (q:c.length<=20000):
  Fff r V Q (i:Int) (0,(List.range r.Phases.length).map λ_=>(0:Int))=some ((List.range r.Phases.length).map λk=>(exC (c.zip Q) (r.Phases.getD k []):Int)):=by
 unfold Fff;have n:((0:Int),(List.range r.Phases.length).map λ_=>(0:Int))=(λ(t:Nat)=>((t:Int),(List.range r.Phases.length).map λk=>(exC ((c.take t).zip (Q.take t)) (r.Phases.getD k []):Int))) 0:=rfl;rw [n,xJ (λ(t:Nat)=>((t:Int),(List.range r.Phases.length).map λk=>(exC ((c.take t).zip (Q.take t)) (r.Phases.getD k []):Int))) c _ (by omega) ?_ ?_]
 ·intro o t x f h;obtain⟨p,j⟩: ∃p,Q[t]? =some p:=⟨_,gE (by omega)⟩;have b:(c.take t).length=(Q.take t).length:=by rw [List.length_take,List.length_take,d]
  simp only [zG];rw [yH a,zA,yP h,zS,refL3_eq l a f j (λk=>(exC ((c.take t).zip (Q.take t)) (r.Phases.getD k []):Int)) (λk _=>by
   have:=exC_le ((c.take t).zip (Q.take t)) (r.Phases.getD k []);rw [List.length_zip,List.length_take]at this;omega),zA,fP h (by omega)]
  have e:((List.range r.Phases.length).map λk=>(exC ((c.take t).zip (Q.take t)) (r.Phases.getD k []):Int)+pO r.Phases x p k)=(List.range r.Phases.length).map λk=>(exC ((c.take (t+1)).zip (Q.take (t+1))) (r.Phases.getD k []):Int):=xP λk _=>by
   rw [kG f,kG j,List.zip_append b,List.zip_cons_cons,List.zip_nil_left,aVv];unfold pO;split<;>simp
  rw [e]
 ·intro o;simp only [zG];rw [yH a,zA,yO,zM,List.take_length,d,List.take_length]
theorem aYz {r:Rules} (a:okR r) (h:chk r=some 0) {f:Flight} (g:Good f) (o:Fbp f r=some 0):Fb1 f r=some (wE r (flF f r) f.From (spn f.From f.To),0):=by
 have b:=nC a h;have t:=b.l;have n:=aYu a h g;have fr:=g.frm;have u:=g.span;have v:spn f.From f.To=(f.To-f.From+1).toNat:=rfl;have m1:make' 8 (r.Phases.length:Int) (0:Int)=some ((List.range r.Phases.length).map λ_=>(0:Int)):=by
  have:=b.p;unfold make';rw [if_pos ⟨by omega,by omega,by omega⟩,Int.toNat_natCast,aCh]
 unfold Fb1;rw [o,zA];simp only [zG];rw [qD (by simp),zM,aZy a h (by have:=g.many;omega),zA,aOb n (aGm g),zA,aUc n (aGm g),zA];have d:Ffk r (evV r (flF f r) f.From f.To) (evP r (flF f r) f.From f.To) ([],0)=some (wE r (flF f r) f.From (spn f.From f.To)):=by
  rw [aAk];unfold Ffk wE;have q:(([]:List (List Int)),(0:Int))=(λ(i:Nat)=>((List.range i).map (λj=>(List.range r.Phases.length).map λk=>xT r (flF f r) f.From (spn f.From f.To) j k),(i:Int))) 0:=rfl;rw [q,xJ (λ(i:Nat)=>((List.range i).map (λj=>(List.range r.Phases.length).map λk=>xT r (flF f r) f.From (spn f.From f.To) j k),(i:Int))) ((List.range r.Rules.length).map λj=>pU r (flF f r) f.From (spn f.From f.To) j) _ (by rw [qH];omega) ?_ ?_]
  ·intro s i _ _ hi;rw [qH]at hi;have e:=rZ (λj=>pU r (flF f r) f.From (spn f.From f.To) j) hi;have l2:=refL2_eq b.p (Q:=evP r (flF f r) f.From f.To) e (by rw [wM];exact(qH _ _).symm) (by rw [wM];omega);simp only [zG];rw [qH,dT (by omega:(i:Int)<(r.Rules.length:Int)),zS,m1,zA,l2,zA];rw [ap24x _ _ (by rw [qH];omega),zA,zA,wrap_i64 (by omega) (by omega),List.range_succ,List.map_append,List.map_singleton];rfl
  ·intro s;simp only [zG];rw [qH,yO,zM]
 rw [d,zA]
theorem xAll_two {r:Rules}(e:okR r)(h:chk r=some 0){f:Flight}(g:Good f):wE r (tkF f r) f.From (spn f.From f.To)=wE r (flF f r) f.From (spn f.From f.To):=by
 obtain⟨c,b⟩:=fl_two e h g f.From f.To;rw [aAk,aAk]at c;have b:phT r (tkF f r) f.From (spn f.From f.To)=phT r (flF f r) f.From (spn f.From f.To):=b;unfold wE xT;refine xP λj d=>xP λ_ _=>?_;have a:=rZ (λj=>pU r (tkF f r) f.From (spn f.From f.To) j) d;rw [c,rZ (λj=>pU r (flF f r) f.From (spn f.From f.To) j) d]at a;rw [oI a,b]
theorem aNx (l:List (List Int)) (e:Int) (n:l.length<=1000) (o: ∀x∈l,x.length<=100000): ∃t,Fb2 l e=some t:=by
 unfold Fb2;have a: ∃q,Fe5 (gX.mk []) l=some q/\q.out.length<=10000000000:=by
  unfold Fe5;simp only [zG];obtain⟨_,c,d⟩:=aJj (gX.mk []) (l.length:Int) (b:=0) (by simp) (by omega);rw [c,zA];unfold Fii;refine aJ (λ(i:Nat) (s:List Int)=>((i:Int),s)) l (λi s=>s.length<=22+i*5000000) (λ(r:gX)=>r.out.length<=10000000000) (by omega) ?_ ?_ _ (by simpa using d)
  ·intro u i s x k hi f;have v:=o x (qS k);have h:i*5000000<=1000*5000000:=Nat.mul_le_mul_right _ (by omega);obtain⟨r,j,w⟩:=ink_Ints (gX.mk s) x (b:=22+i*5000000) (by simpa using f) (by omega);refine⟨r.out,by rw [Nat.succ_mul];omega,?_⟩;simp only [zG];rw [yP hi,zS,yH k,zA,j,zA,fP hi (by omega)]
  ·intro u s f;have h:l.length*5000000<=1000*5000000:=Nat.mul_le_mul_right _ n;simp only [zG];rw [yO,zM];exact⟨_,rfl,by simpa using(Nat.le_trans f (by omega):s.length<=10000000000)⟩
 obtain⟨q,c,d⟩:=a;obtain⟨_,j,w⟩:=aJj q e d (by omega);rw [c,zA];unfold Ffs Ffi;rw [j];exact⟨_,rfl⟩
theorem ints9_ex (l:List Int)(e:Int)(h:l.length<=100000): ∃t,Fck l e=some t:=by
 obtain⟨t,a⟩:=aNx [l] e (by simp) (λ_ b=>by rw [mS.1 b];exact h);unfold Fck;simp only [zG];rw [a];exact⟨t,rfl⟩
theorem totals_ok:Fe9=some true:=by decide+kernel
theorem faults_eq {f:Flight}{r:Rules} (a:aBs f) (b:okR r): ∃e,Fbw f r=some e/\Fbp f r=some e/\(e=0->aUu f=0/\chk r=some 0):=by
 obtain⟨c,d⟩:=chk_some r;unfold Fbw Fbp;rw [aLe f a,aHy f a,aSs r b,rCheck_eq r b,d,zA,zA];simp only [zG];by_cases z:aUu f=0;rw [qD (by simpa using z),zM];exact⟨c,rfl,rfl,λh=>⟨z,by rw [h]⟩⟩;rw [dT (by simpa using z),zS];exact⟨_,rfl,rfl,λh=>absurd h z⟩
theorem aHz (f:Flight) (r:Rules) (o:aBs f) (s:bBq r):Ffn f r=some true:=by
 have a:okR r:=s;obtain⟨e,d,h,t⟩:=faults_eq o a;have c: ∃p q,Fdf f r=some p/\Fdj f r=some p/\Fby f r=some q/\Fb1 f r=some q/\p.1.length<=100000/\q.1.length<=1000/\ ∀x∈q.1,x.length<=100000:=by
  by_cases z:e=0
  ·obtain⟨u,z2⟩:=t z;have g:=good_of u;have n:=nC a z2;have I:=n.l;have J:=n.p;refine⟨((List.range r.Rules.length).map λj=>(qW false (pU r (tkF f r) f.From (spn f.From f.To) j):Int),0),(wE r (tkF f r) f.From (spn f.From f.To),0),?_,?_,exceed_eq a z2 g (by rw [d,z]),by rw [xAll_two a z2 g];exact aYz a z2 g (by rw [h,z]),?_,?_,?_⟩
   ·unfold Fdf;rw [d,zA,z];simp only [zG];rw [qD (by simp),zM,aGp a z2 g,zA]
   ·unfold Fdj;rw [h,zA,z];simp only [zG];rw [qD (by simp),zM,aUw a z2 g,aGp a z2 g,zA]
   ·show((List.range _).map _).length<=_;rw [qH];omega
   ·show(wE _ _ _ _).length<=_;unfold wE;rw [qH];omega
   ·intro x b;have b:x∈wE r (tkF f r) f.From (spn f.From f.To):=b;unfold wE at b;obtain⟨j,_,rfl⟩:=List.mem_map.1 b;rw [qH];omega
  ·refine⟨([],e),([],e),?_,?_,?_,?_,Nat.zero_le _,Nat.zero_le _,λx b=>by cases b⟩
   ·unfold Fdf;rw [d,zA];simp only [zG];rw [dT (by simpa using z),zS]
   ·unfold Fdj;rw [h,zA];simp only [zG];rw [dT (by simpa using z),zS]
   ·unfold Fby;rw [d,zA];simp only [zG];rw [dT (by simpa using z),zS]
   ·unfold Fb1;rw [h,zA];simp only [zG];rw [dT (by simpa using z),zS]
 obtain⟨⟨v,w⟩,⟨y,A⟩,B,C,D,E,F,G,H⟩:=c;obtain⟨t1,i⟩:=ints9_ex v w F;obtain⟨t2,k⟩:=aNx y A G H;unfold Ffn;rw [B,C,D,E];simp only [zA,zG];rw [i,zA,zA,dT rfl,zS,k,zA,zA,dT rfl,zS,totals_ok];rfl
end Go.Lf
