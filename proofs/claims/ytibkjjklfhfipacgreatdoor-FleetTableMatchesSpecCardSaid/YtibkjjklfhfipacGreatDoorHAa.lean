/- Laws that the claim stands on; no condition beyond those stated. -/
import Derived.Test.YtibkjjklfhfipacGreatDoorTEb
namespace Go.Lf
def lfF (l:List Flight):Option Int:=if decide (300<(l.length:Int))then some 3 else eU (λ_ f=>if rF f=0 then none else some (some (rF f))) (some 0) l 0
theorem uZ (l:List Flight) (h:okL kZ l):Fca l=lfF l:=by
 unfold Fca lfF;simp only [zD,xE,dZ];congr 1;unfold Ff9;refine yS l _ _ h.1 ?_ ?_;intro b _ x a hi;simp only [zD];rw [yA hi,zL,yB a,zA,aDx x (h.2 x (qS a)),zA,fC hi h.1,xC];by_cases c:rF x=0<;>simp [c];intro b;simp only [zD];rw [yC];rfl
theorem aIm (l:List Flight) (h:okL kZ l):Fb9 l=lfF l:=by
 unfold Fb9 lfF;simp only [zD,xE,dZ];congr 1;unfold Fhv;refine yS l _ _ h.1 ?_ ?_;intro b _ x a hi;simp only [zD];rw [yA hi,zL,yB a,zA,aDo x (h.2 x (qS a)),zA,fC hi h.1,xC];by_cases c:rF x=0<;>simp [c];intro b;simp only [zD];rw [yC];rfl
theorem aIt (l:List Flight): ∃r,lfF l=some r:=by
 unfold lfF;split
 ·exact⟨_,rfl⟩
 ·have: ∀(m:List Flight) (i:Nat),∃r,eU (λ_ f=>if rF f=0 then none else some (some (rF f))) (some 0) m i=some r:=by
   intro m
   induction m with
   |nil=>intro i;exact⟨_,rfl⟩
   |cons x m a=>
    intro i;rw [eU]
    by_cases c:rF x=0
    ·simp only [c,if_true];exact a (i+1)
    ·simp only [c,if_false];exact⟨_,rfl⟩
  exact this l 0
theorem lfF_zero {l:List Flight} (h:lfF l=some 0):l.length<=300/\ ∀f∈l,rF f=0:=by
 unfold lfF at h
 by_cases c:300<(l.length:Int)
 ·rw [dT c,if_pos rfl]at h;cases h
 rw [qD c,if_neg Bool.false_ne_true]at h;refine⟨by omega,?_⟩;have: ∀(m:List Flight) (i:Nat),eU (λ_ f=>if rF f=0 then none else some (some (rF f))) (some 0) m i=some 0-> ∀f∈m,rF f=0:=by
  intro m
  induction m with
  |nil=>intro i _ f a;cases a
  |cons x m b=>
   intro i hm f a;rw [eU]at hm
   by_cases c:rF x=0
   ·simp only [c,if_true]at hm;rcases List.mem_cons.1 a with rfl|a
    ·exact c
    ·exact b (i+1) hm f a
   ·simp only [c,if_false]at hm;exact absurd (oI hm) c
 exact this l 0 h
open Go.OB
theorem aHn (f:Flight) (s:Str) (a:f.Tracks.length<=9223372036854775807):Fb8 f s=some (f.Tracks.find? λt=>decide (t.Name=s)):=by
 unfold Fb8;simp only [zD,xE];unfold Fhc;rw [yS f.Tracks (λ_ x=>if decide (x.Name=s)=true then some (some (some x))else none) (some none) a]
 ·have: ∀(l:List Track) (i:Nat),eU (λ_ x=>if decide (x.Name=s)=true then some (some (some x))else none) (some none) l i=some (l.find? λt=>decide (t.Name=s)):=by
   intro l
   induction l with
   |nil=>intro i;rfl
   |cons x l b=>
    intro i;rw [eU,List.find?_cons]
    by_cases c:x.Name=s
    ·simp [c]
    ·simp only [c,decide_false,Bool.false_eq_true,if_false];exact b (i+1)
  exact this _ _
 ·intro d i x e hi;simp only [zD];rw [yA hi,zL,yB e,zA,zA,fC hi a]
  by_cases c:x.Name=s<;>simp [c,gQ]
 ·intro d;simp only [zD];rw [yC,zK]
def tkO (f:Flight)(s:Str):Track:=(f.Tracks.find? λt=>decide (t.Name=s)).getD ⟨s,⟨1,[]⟩,0⟩
def tkF (f:Flight)(r:Rules):List Track:=(aQ (rE (dB r))).map (tkO f)
theorem rM (f:Flight)(s:Str):(tkO f s).Name=s:=by
 unfold tkO
 cases e:f.Tracks.find? λt=>decide (t.Name=s)with
 |none=>rfl
 |some t=>simpa using List.find?_some e
theorem ap56 {a:Type}(p q:List a)(h:p.length+q.length<=1000000):app' 56 p q=some (p++q):=by
 unfold app';rw [if_pos ⟨by rw [maxLen_eq];omega,by omega⟩]
theorem pJ {r:Rules}(g:Gr' r):(aQ (rE (dB r))).length<=48000:=by
 rw [aBd];exact trkN_len g
theorem Tracks_eq {r:Rules}(a:okR r)(h:chk r=some 0):Fb0 r=some (aQ (rE (dB r)),0):=by
 unfold Fb0;rw [aIq r a,h,zA];simp only [zD];rw [qD (by simp),zK,aMj (aA a h),zA]
theorem aCz {r:Rules} (a:okR r) (h:chk r=some 0) {f:Flight} (c:f.Tracks.length<=1000):Fb7 f r=some (tkF f r):=by
 have d:=pJ (aA a h);unfold Fb7;rw [Tracks_eq a h,zA];simp only [zD];unfold Fg3 tkF;generalize aQ (rE (dB r))=l at *
 rw [show(([]:List Track),(0:Int))=(λ(i:Nat)=>((l.take i).map (tkO f),(i:Int))) 0 by simp];rw [xB (λ(i:Nat)=>((l.take i).map (tkO f),(i:Int))) l (some (l.map (tkO f))) (by omega) ?_ ?_]
 ·rfl
 ·intro k i x b hi;simp only [zD];have j:((l.take i).map (tkO f)).length<=48000:=by simp;omega
  rw [yA hi,zL,yB b,zA,aHn f x (by omega),zA,fC hi (by omega),bY b,List.map_append];have e:tkO f x=(f.Tracks.find? λt=>decide (t.Name=x)).getD ⟨x,⟨1,[]⟩,0⟩:=rfl;rw [List.map_singleton,e]
  cases f.Tracks.find? λt=>decide (t.Name=x)with
  |none=>simp only [Option.isNone_none,Bool.not_true,zK];rw [ap56 _ _ (by simp only [List.length_singleton];omega),zA,zA];rfl
  |some t=>simp only [Option.isNone_some,Bool.not_false,zL];rw [zA,ap56 _ _ (by simp only [List.length_singleton];omega),zA,zA];rfl
 ·intro k;simp only [zD];rw [yC,zK,List.take_length]
theorem aDw:aAn ⟨1,[]⟩=0:=by decide
theorem tkF_TK {r:Rules} (g:Gr' r) {f:Flight} (n:aGu f.Tracks=0):TK (tkF f r):=by
 have q:=pJ g;obtain⟨o,_⟩:=aBa (dB r);refine⟨by unfold tkF;rw [List.length_map];omega,λi j x _ c h k=>?_,λi x c=>?_⟩
 ·unfold tkF at c h;rw [List.getElem?_map]at c h;obtain⟨a,l,rfl⟩:=Option.map_eq_some_iff.1 c;obtain⟨_,p,rfl⟩:=Option.map_eq_some_iff.1 h;rw [rM,rM];intro e;subst e;have hi:=(gS.1 l);have d:=(gS.1 p);have:=List.pairwise_iff_getElem.1 o i j hi.1 d.1 k;rw [hi.2,d.2,jO]at this
  cases this
 ·unfold tkF at c;rw [List.getElem?_map]at c;obtain⟨a,l,rfl⟩:=Option.map_eq_some_iff.1 c;unfold tkO
  cases e:f.Tracks.find? λt=>decide (t.Name=a)with
  |none=>exact aDw
  |some t=>
   obtain⟨j,d⟩:=List.getElem?_of_mem (List.mem_of_find?_eq_some e);exact((aAj f.Tracks j t).1 (((aCg f.Tracks).1 n).2 j t d)).2.2.1
theorem tkF_GB {r:Rules}(a:okR r)(h:chk r=some 0){f:Flight}(b:aGu f.Tracks=0):GB r (tkF f r):=by
 have g:=aA a h;refine⟨a,h,tkF_TK g b,λs c=>?_⟩;unfold tkF;rw [List.map_map];refine List.mem_map.2 ⟨s,((aBa (dB r)).2 s).2 c,?_⟩;exact rM f s
theorem aCx (r:Rules) {l:List Track}{s:Str} (f:s∈l.map Track.Name) (a:Int) (t:Nat): ∃(j:Nat) (x:Track),l[j]? =some x/\x.Name=s/\at' (tel l a t) (trI l s)=some (inT (a+(t:Int)) x)/\(MkR r l 0).dn (trI l s)=x.Series.Den:=by
 obtain⟨j,c,d⟩:=uM s _ 0 f;rw [Nat.zero_add]at c;rw [List.getElem?_map,Option.map_eq_some_iff]at d;obtain⟨x,b,h⟩:=d;have e:trI l s=(j:Int):=c;refine⟨j,x,b,h,?_,?_⟩;rw [e,kU];unfold tel;rw [List.getElem?_map,b];rfl;show(at' (nX l) (trI l s)).getD 0=_;rw [e,kU];unfold nX;rw [List.getElem?_map,b];rfl
theorem two_tel {r:Rules}{l1 l2:List Track} (g1:GB r l1) (g2:GB r l2) (f: ∀s∈dB r,∀x∈l1,∀y∈l2,x.Name=s->y.Name=s->x.Series=y.Series/\x.Long=y.Long) (a:Int):aXm r l1 l2 (tel l1 a) (tel l2 a):=by
 refine⟨g1,g2,tel_I g1.t a,tel_I g2.t a,λs hm t=>?_,λs hm=>?_⟩;obtain⟨j,x,b,a2,a3,-⟩:=aCx r (g1.n s hm) a t;obtain⟨k,y,c,d,h,-⟩:=aCx r (g2.n s hm) a t;obtain⟨e,i⟩:=f s hm x (qS b) y (qS c) a2 d;rw [a3,h];unfold inT;rw [e,i];obtain⟨j,x,b,a2,-,a4⟩:=aCx r (g1.n s hm) a 0;obtain⟨k,y,c,d,-,l⟩:=aCx r (g2.n s hm) a 0;obtain⟨e,-⟩:=f s hm x (qS b) y (qS c) a2 d;rw [a4,l,e]
theorem evV_two {r:Rules}{l1 l2:List Track} (g1:GB r l1) (g2:GB r l2) (c: ∀s∈dB r,∀x∈l1,∀y∈l2,x.Name=s->y.Name=s->x.Series=y.Series/\x.Long=y.Long) (a b:Int):evV r l1 a b=evV r l2 a b/\evP r l1 a b=evP r l2 a b:=by
 have H:=two_tel g1 g2 c a;constructor;unfold evV;rw [aVx H];unfold evP;refine List.map_congr_left λ_ _=>?_;unfold phsT;rw [phs_two H]
def mkE (s:Str):Track:=⟨s,⟨1,[]⟩,0⟩
def qM (f:Flight)(s:Str):Bool:=f.Tracks.any λt=>decide (t.Name=s)
def flF (f:Flight)(r:Rules):List Track:=f.Tracks++((aQ (rE (dB r))).filter λs=> !qM f s).map mkE
theorem full_L2 (f:Flight) {l:List Str}{i:Nat}{s:Str} (c:l[i]? =some s) (h:f.Tracks.length<=1000):Fci f l (i:Int) (false,0)=some (qM f s):=by
 unfold Fci;have d:(false,(0:Int))=(λ(k:Nat)=>(((f.Tracks.take k).any λt=>decide (t.Name=s)),(k:Int))) 0:=rfl;rw [d,xB (λ(k:Nat)=>(((f.Tracks.take k).any λt=>decide (t.Name=s)),(k:Int))) f.Tracks (some (qM f s)) (by omega) ?_ ?_];intro e k t a b;simp only [zD];rw [yA b,zL,fC b (by omega),bY a,List.any_append];cases(f.Tracks.take k).any λt=>decide (t.Name=s);rw [zK,yB a,zA,yB c,zA,zA];simp;rw [zL,zA];simp;intro e;simp only [zD];rw [yC,zK,List.take_length];rfl
theorem full_eq {r:Rules} (b:okR r) (h:chk r=some 0) {f:Flight} (d:f.Tracks.length<=1000):Fce f r=some (flF f r):=by
 have g:=aA b h;have k:=pJ g;unfold Fce;rw [ap56 _ _ (by simp;omega),zA,aOx g,zA,<-aBd];unfold Fgt flF;generalize aQ (rE (dB r))=l at *
 have e:(([]:List Track)++f.Tracks,(0:Int))=(λ(i:Nat)=>(f.Tracks++((l.take i).filter λs=> !qM f s).map mkE,(i:Int))) 0:=by simp
 rw [e,xB (λ(i:Nat)=>(f.Tracks++((l.take i).filter λs=> !qM f s).map mkE,(i:Int))) l (some (f.Tracks++(l.filter λs=> !qM f s).map mkE)) (by omega) ?_ ?_]
 ·rfl
 ·intro j i s a hi;simp only [zD];have n:(f.Tracks++((l.take i).filter λs=> !qM f s).map mkE).length<=49000:=by
   have:=List.length_filter_le (λs=> !qM f s) (l.take i);simp only [List.length_append,List.length_map,List.length_take]at *
   omega
  rw [yA hi,zL,full_L2 f a d,zA,fC hi (by omega),bY a,List.filter_append,List.map_append]
  cases c:qM f s
  ·rw [Bool.not_false,zL,yB a,zA,ap56 _ _ (by simp only [List.length_singleton];omega),zA,zA];rw [List.filter_cons_of_pos (by rw [c];rfl),List.filter_nil,List.map_singleton,<-List.append_assoc];rfl
  ·rw [Bool.not_true,zK,zA,List.filter_cons_of_neg (by rw [c];simp),List.filter_nil,List.map_nil,List.append_nil]
 ·intro j;simp only [zD];rw [yC,zK,List.take_length]
theorem wM {f:Flight}{s:Str}:qM f s=true↔s∈f.Tracks.map Track.Name:=by
 unfold qM;rw [List.any_eq_true,List.mem_map];exact⟨λ⟨t,a,b⟩=>⟨t,a,of_decide_eq_true b⟩,λ⟨t,a,b⟩=>⟨t,a,dT b⟩⟩
theorem flF_GB {r:Rules} (p:okR r) (h:chk r=some 0) {f:Flight} (g:Good f):GB r (flF f r):=by
 have t:=aA p h;have C:=pJ t;obtain⟨u,v⟩:=aBa (dB r);have hm:=g.many;have tk:=tk_of g.trk;refine⟨p,h,⟨?_,?_,?_⟩,λs l=>?_⟩
 ·have:=List.length_filter_le (λs=> !qM f s) (aQ (rE (dB r)));unfold flF;rw [List.length_append,List.length_map];omega
 ·have w:(flF f r).Pairwise λa b=>a.Name≠b.Name:=by
   unfold flF;rw [List.pairwise_append];refine⟨aPa g.trk,?_,λa z b A=>?_⟩
   ·rw [List.pairwise_map];refine List.Pairwise.filter _ (u.imp λ {a b} d e=>?_);have e:a=b:=e;rw [e,jO]at d
    cases d
   ·obtain⟨s,l,rfl⟩:=List.mem_map.1 A;have q:=(List.mem_filter.1 l).2;intro e;have e:a.Name=s:=e;have:qM f s=true:=wM.2 (List.mem_map.2 ⟨a,z,e⟩);rw [this]at q
    cases q
  intro i j x _ n B o;have hi:=gS.1 n;have k:=gS.1 B;have:=List.pairwise_iff_getElem.1 w i j hi.1 k.1 o;rw [hi.2,k.2]at this;exact this
 ·intro i x n;have hm:=qS n;unfold flF at hm;rcases mA.1 hm with q|q
  ·obtain⟨j,k⟩:=List.getElem?_of_mem q;exact tk.s j x k
  ·obtain⟨s,_,rfl⟩:=List.mem_map.1 q;exact aDw
 ·unfold flF;rw [List.map_append,mA]
  cases c:qM f s
  ·refine .inr (List.mem_map.2 ⟨mkE s,List.mem_map.2 ⟨s,List.mem_filter.2 ⟨(v s).2 l,by rw [c];rfl⟩,rfl⟩,rfl⟩)
  ·exact .inl (wM.1 c)
theorem flF_same {r:Rules}{f:Flight} (g:Good f) (s:Str) {x y:Track} (l:x∈tkF f r) (n:y∈flF f r) (o:x.Name=s) (a:y.Name=s):x=y:=by
 unfold tkF at l;obtain⟨k,_,rfl⟩:=List.mem_map.1 l;rw [rM]at o;subst o;unfold flF at n;unfold tkO;rcases mA.1 n with q|q
 ·cases e:f.Tracks.find? λt=>decide (t.Name=k)with
  |none=>
   have:=List.find?_eq_none.1 e y q;rw [a]at this;simp at this
  |some t=>
   have b:t.Name=k:=by simpa using List.find?_some e
   obtain⟨i,hi⟩:=List.getElem?_of_mem (List.mem_of_find?_eq_some e);obtain⟨j,h⟩:=List.getElem?_of_mem q;have tk:=tk_of g.trk;rcases Nat.lt_trichotomy i j with c|c|c
   ·exact absurd (b.trans a.symm) (tk.d i j t y hi h c)
   ·subst c;rw [hi]at h;exact oI h
   ·exact absurd (a.trans b.symm) (tk.d j i y t h hi c)
 ·obtain⟨s2,p,rfl⟩:=List.mem_map.1 q;have a:s2=k:=a;subst a;have q:=(List.mem_filter.1 p).2;have:f.Tracks.find? (λt=>decide (t.Name=s2))=none:=by
   refine List.find?_eq_none.2 λt b=>?_
   intro u;have:qM f s2=true:=wM.2 (List.mem_map.2 ⟨t,b,of_decide_eq_true u⟩);rw [this]at q
   cases q
  rw [this];rfl
theorem fl_two {r:Rules}(c:okR r)(h:chk r=some 0){f:Flight}(g:Good f)(a b:Int):evV r (tkF f r) a b=evV r (flF f r) a b/\evP r (tkF f r) a b=evP r (flF f r) a b:=
 evV_two (tkF_GB c h g.trk) (flF_GB c h g) (λs _ _ d _ e i j=>by rw [flF_same g s d e i j];exact⟨rfl,rfl⟩) a b
def aH:Bool->List Int->Nat
 |_,[]=>0
 |o,x::l=>(if x=2/\o=false then 1 else 0)+aH (decide (x=2)) l
theorem aEl (l:List Int): ∀(d t e:Nat),t+d=e->(∀s,t<=s->s<e->l[s]? =some 2)->aH true (l.drop t)=aH true (l.drop e)
 |0,t,e,hd,_=>by rw [show t=e by omega]
 |d+1,t,e,hd,h=>by
  have a:=h t (Nat.le_refl _) (by omega);have b:=(gS.1 a).1;have c:=(gS.1 a).2;rw [List.drop_eq_getElem_cons b,aH,c,if_neg (by simp),dT rfl,Nat.zero_add];exact aEl l d (t+1) e (by omega) λs _ f=>h s (by omega) f
theorem aCw {a i:Int}{l:List Int}{t:Nat}{c:List fM} (k:aKx a i l t c):(∀x∈c,x.Rule=i)/\ ∀o:Bool,(o=true->l[t]? ≠some 2)->c.length=aH o (l.drop t):=by
 induction k with
 | @done t h=>exact⟨λx b=>(by cases b),λo _=>by rw [List.drop_of_length_le h];rfl⟩
 | @skip t c h f _ d=>
  refine⟨d.1,λo _=>?_⟩;have b:l[t]≠2:=λq=>f (by rw [gE h,q])
  rw [List.drop_eq_getElem_cons h,aH,if_neg (λq=>b q.1),qD b,Nat.zero_add];exact d.2 false (λq=>by cases q)
 | @run t e c h f j _ d=>
  refine⟨λx b=>?_,λo n=>?_⟩
  ·rcases List.mem_cons.1 b with rfl|b
   ·rfl
   ·exact d.1 x b
  ·have b:=f t (Nat.le_refl _) h;have p:=(gS.1 b).1;have r:=(gS.1 b).2;have of:o=false:=by
    cases o with
    |false=>rfl
    |true=>exact absurd b (n rfl)
   rw [List.drop_eq_getElem_cons p,aH,r,if_pos ⟨rfl,of⟩,dT rfl,aEl l (e-t) (t+1) (e+1) (by omega) (λs _ _=>f s (by omega) (by omega)),List.length_cons,d.2 true (λ_=>j)];omega
theorem jW {a:Type}(f:Nat->a){R i:Nat}(h:i<R):((List.range R).map f)[i]? =some (f i):=by
 rw [List.getElem?_map,List.getElem?_range h];rfl
theorem aHl {a:Type}(f:Nat->a){R i:Nat}(h:i<R):at' ((List.range R).map f) (i:Int)=some (f i):=yB (jW f h)
theorem aCy {b:Type}{f g:Nat->b}{R i:Nat} (h:i<R) {x:b} (d: ∀j,j<R->g j=if j=i then x else f j):set' ((List.range R).map f) (i:Int) x=some ((List.range R).map g):=by
 unfold set';rw [if_pos ⟨by omega,by simp;omega⟩,Int.toNat_natCast];congr 1;refine List.ext_getElem? λj=>?_;rw [List.getElem?_set];by_cases a:j<R;rw [jW g a,d j a];by_cases c:i=j;subst c;rw [if_pos rfl,if_pos (by simpa using h),if_pos rfl];rw [if_neg c,if_neg (λq=>c q.symm),jW f a];have e:((List.range R).map g)[j]? =none:=List.getElem?_eq_none (by simp;omega);have k:((List.range R).map f)[j]? =none:=List.getElem?_eq_none (by simp;omega);rw [e,k,if_neg (by omega)]
theorem aF {a:Type}{f g:Nat->a}{R:Nat}(h: ∀j,j<R->f j=g j):(List.range R).map f=(List.range R).map g:=List.map_congr_left λj b=>h j (List.mem_range.1 b)
def rO:Bool->List Int->Bool
 |o,[]=>o
 |_,x::l=>rO (decide (x=2)) l
theorem aAl (x:Int): ∀(l:List Int) (o:Bool),rO o (l++[x])=decide (x=2)
 | [],_=>rfl
 |_::l,_=>aAl x l _
theorem aBx (x:Int): ∀(l:List Int) (o:Bool),aH o (l++[x])=aH o l+if x=2/\rO o l=false then 1 else 0
 | [],o=>by
  show aH o [x]=aH o []+if x=2/\o=false then 1 else 0;rw [aH,aH,aH,Nat.zero_add,Nat.add_zero]
 |y::l,o=>by
  rw [List.cons_append,aH,aBx x l,aH,Nat.add_assoc];rfl
theorem aCs: ∀(l:List Int) (o:Bool),aH o l<=l.length
 | [],_=>Nat.le_refl _
 |x::l,o=>by
  have:=aCs l (decide (x=2));rw [aH,List.length_cons];split<;>omega
theorem aHf {v:List Int} (ph:List Str) {R:Nat} (u:v.length=R) (w:R<=1000) (f:Nat->Bool) (g:Nat->Int) (r: ∀j,j<R->0<=g j/\g j<=1000000):
  Fcf v ph ((List.range R).map f) ((List.range R).map g)=some ((List.range R).map (λj=>decide (v.getD j 0=2)),(List.range R).map λj=>g j+if v.getD j 0=2/\f j=false then 1 else 0):=by
 unfold Fcf;simp only [zD];unfold Fh8;have s:((0:Int),(List.range R).map f,(List.range R).map g)=(λ(i:Nat)=>((i:Int),(List.range R).map (λj=>if j<i then decide (v.getD j 0=2)else f j),(List.range R).map λj=>if j<i then g j+(if v.getD j 0=2/\f j=false then 1 else 0)else g j)) 0:=by
  dsimp only;simp only [Nat.not_lt_zero,if_false];rfl
 rw [s,xB (λ(i:Nat)=>((i:Int),(List.range R).map (λj=>if j<i then decide (v.getD j 0=2)else f j),(List.range R).map λj=>if j<i then g j+(if v.getD j 0=2/\f j=false then 1 else 0)else g j)) v (some ((List.range R).map (λj=>decide (v.getD j 0=2)),(List.range R).map λj=>g j+if v.getD j 0=2/\f j=false then 1 else 0)) (by omega) ?_ ?_]
 ·intro k i x o hi;have a:i<R:=by omega
  have n:v.getD i 0=x:=by rw [List.getD_eq_getElem?_getD,o];rfl
  have b:=r i a;have e:set' ((List.range R).map (λj=>if j<i then decide (v.getD j 0=2)else f j)) (i:Int) (decide (x=2))=some ((List.range R).map (λj=>if j<i+1 then decide (v.getD j 0=2)else f j)):=by
   refine aCy a λj l=>?_
   by_cases c:j=i
   ·subst c;simp only [Nat.lt_succ_self,if_true,n]
   ·by_cases d:j<i
    ·simp only [if_neg c,if_pos d,if_pos (Nat.lt_succ_of_lt d)]
    ·simp only [if_neg c,if_neg d,if_neg (show¬j<i+1 by omega)]
  have t:(v.getD i 0=2/\f i=false)->set' ((List.range R).map λj=>if j<i then g j+(if v.getD j 0=2/\f j=false then 1 else 0)else g j) (i:Int) (g i+1)=some ((List.range R).map λj=>if j<i+1 then g j+(if v.getD j 0=2/\f j=false then 1 else 0)else g j):=λq=>by
   refine aCy a λj l=>?_
   by_cases c:j=i
   ·subst c;simp only [Nat.lt_succ_self,if_true,if_pos q]
   ·by_cases d:j<i
    ·simp only [if_neg c,if_pos d,if_pos (Nat.lt_succ_of_lt d)]
    ·simp only [if_neg c,if_neg d,if_neg (show¬j<i+1 by omega)]
  have p: ¬(v.getD i 0=2/\f i=false)->((List.range R).map λj=>if j<i then g j+(if v.getD j 0=2/\f j=false then 1 else 0)else g j)=((List.range R).map λj=>if j<i+1 then g j+(if v.getD j 0=2/\f j=false then 1 else 0)else g j):=λq=>by
   refine aF λj l=>?_
   by_cases c:j=i
   ·subst c;simp only [Nat.lt_irrefl,if_false,Nat.lt_succ_self,if_true,if_neg q,Int.add_zero]
   ·by_cases d:j<i
    ·simp only [if_pos d,if_pos (Nat.lt_succ_of_lt d)]
    ·simp only [if_neg d,if_neg (show¬j<i+1 by omega)]
  have h:=aHl (λj=>if j<i then decide (v.getD j 0=2)else f j) a;have a2:=aHl (λj=>if j<i then g j+(if v.getD j 0=2/\f j=false then 1 else 0)else g j) a;rw [if_neg (Nat.lt_irrefl i)]at h a2;simp only [zD];rw [yA hi,zL,yB o,zA]
  by_cases c:x=2
  ·rw [dT c,zL,h,zA];rw [dT c]at e
   cases hf:f i
   ·rw [hf]at h;simp only [Bool.not_false,zA,zL];rw [a2,zA,zA,wrap_i64 (by omega) (by omega),t ⟨by rw [n];exact c,hf⟩,zA,zA,e,zA,fC hi (by omega)]
   ·rw [hf]at h;simp only [Bool.not_true,zA,zK];rw [e,zA,fC hi (by omega),p (λq=>by rw [hf]at q;cases q.2)]
  ·rw [qD c]at e;rw [qD c,zK,zA,zK,zA,h,zA,e,zA,fC hi (by omega),p (λq=>c (by rw [<-n];exact q.1))]
 ·intro k;simp only [zD];rw [yC,zK]
  congr 2
  ·exact aF λj l=>by rw [if_pos (by omega)]
  ·exact aF λj l=>by rw [if_pos (by omega)]
def aV (r:Rules)(l:List Track)(a:Int)(t j:Nat):List Int:=(runT (tel l a) (fJ r l) t).1.map λrow=>row.getD j 0
theorem wO (r:Rules)(l:List Track)(a:Int)(t j:Nat):(aV r l a t j).length=t:=by unfold aV;rw [List.length_map,aJr]
theorem aBu (r:Rules)(l:List Track)(a:Int)(t j:Nat):aV r l a (t+1) j=aV r l a t j++[(nxt (tel l a t) (runT (tel l a) (fJ r l) t).2).1.getD j 0]:=by
 unfold aV;rw [runT,List.map_append,List.map_singleton]
theorem vS (r:Rules)(l:List Track)(a b:Int):evV r l a b=(List.range r.Rules.length).map λj=>aV r l a (spn a b) j:=rfl
theorem nxt_rows {r:Rules}{l:List Track}(a:Int)(t:Nat):(nxt (tel l a t) (runT (tel l a) (fJ r l) t).2).1.length=r.Rules.length:=by
 rw [(aAx _ _).1,aWf]
theorem aDt {r:Rules}{f:Flight}{l:List Track} (b:GB r l) (g:Good f) (c:r.Rules.length<=1000):
  Fdj f l (f.From,(List.range r.Rules.length).map (λ_=>false),(List.range r.Rules.length).map (λ_=>(0:Int)),(fJ r l).phases,(fJ r l).tracks,(fJ r l).moves,(fJ r l).rules,(fJ r l).possible)=some ((List.range r.Rules.length).map (λj=>rO false (aV r l f.From (spn f.From f.To) j)),(List.range r.Rules.length).map λj=>(aH false (aV r l f.From (spn f.From f.To) j):Int)):=by
 have fr:=g.frm;have q:=g.span;have s:spn f.From f.To=(f.To-f.From+1).toNat:=rfl;unfold Fdj;have d:(f.From,(List.range r.Rules.length).map (λ_=>false),(List.range r.Rules.length).map (λ_=>(0:Int)),(fJ r l).phases,(fJ r l).tracks,(fJ r l).moves,(fJ r l).rules,(fJ r l).possible)=(λ(t:Nat)=>(f.From+(t:Int),(List.range r.Rules.length).map (λj=>rO false (aV r l f.From t j)),(List.range r.Rules.length).map (λj=>(aH false (aV r l f.From t j):Int)),(runT (tel l f.From) (fJ r l) t).2.phases,(runT (tel l f.From) (fJ r l) t).2.tracks,(runT (tel l f.From) (fJ r l) t).2.moves,(runT (tel l f.From) (fJ r l) t).2.rules,(runT (tel l f.From) (fJ r l) t).2.possible)) 0:=by
  have:f.From+((0:Nat):Int)=f.From:=by omega
  dsimp only;rw [this];rfl
 rw [d];have a:(List.replicate (spn f.From f.To) ()).length=spn f.From f.To:=List.length_replicate;refine xB (λ(t:Nat)=>(f.From+(t:Int),(List.range r.Rules.length).map (λj=>rO false (aV r l f.From t j)),(List.range r.Rules.length).map (λj=>(aH false (aV r l f.From t j):Int)),(runT (tel l f.From) (fJ r l) t).2.phases,(runT (tel l f.From) (fJ r l) t).2.tracks,(runT (tel l f.From) (fJ r l) t).2.moves,(runT (tel l f.From) (fJ r l) t).2.rules,(runT (tel l f.From) (fJ r l) t).2.possible)) (List.replicate (spn f.From f.To) ()) _ (by rw [a];omega) ?_ ?_
 ·rintro k t _-e;rw [a]at e;obtain⟨h,i,n⟩:=frame_ok b t fr.1 (by omega:f.From+(t:Int)<=4194303);have o:=aHf (v:=(nxt (tel l f.From t) (runT (tel l f.From) (fJ r l) t).2).1) (phL (runT (tel l f.From) (fJ r l) (t+1)).2.possible r.Phases) (nxt_rows f.From t) c (λj=>rO false (aV r l f.From t j)) (λj=>(aH false (aV r l f.From t j):Int)) (λj _=>by have:=aCs (aV r l f.From t j) false;rw [wO]at this;omega);simp only [zD];rw [dT (by omega:f.From+(t:Int)<=f.To),zL];unfold Fff Ff3;rw [h,zA,zA];show gB (gB (Fbg (runT (tel l f.From) (fJ r l) t).2 _) _) _=_;rw [i,zA,zA];show gB (Fbe (nxt (tel l f.From t) (runT (tel l f.From) (fJ r l) t).2).2) _=_;rw [n,zA,o,zA,wrap_i64 (by omega) (by omega)];have p:(List.range r.Rules.length).map (λj=>decide ((nxt (tel l f.From t) (runT (tel l f.From) (fJ r l) t).2).1.getD j 0=2))=(List.range r.Rules.length).map (λj=>rO false (aV r l f.From (t+1) j)):=aF λj _=>by rw [aBu,aAl]
  have c2:((List.range r.Rules.length).map λj=>(aH false (aV r l f.From t j):Int)+if (nxt (tel l f.From t) (runT (tel l f.From) (fJ r l) t).2).1.getD j 0=2/\rO false (aV r l f.From t j)=false then 1 else 0)=(List.range r.Rules.length).map λj=>(aH false (aV r l f.From (t+1) j):Int):=aF λj _=>by
   rw [aBu,aBx];split<;>simp
  rw [p,c2,show f.From+(t:Int)+1=f.From+((t+1:Nat):Int)by omega];rfl
 ·intro k;rw [a];simp only [zD];rw [qD (by omega: ¬f.From+((spn f.From f.To:Nat):Int)<=f.To),zK]
theorem aCq {a:Type}(x:a): ∀n,List.replicate n x=(List.range n).map λ_=>x:=λn=>by
 refine List.ext_getElem? λj=>?_
 by_cases h:j<n
 ·rw [jW (λ_=>x) h,List.getElem?_replicate_of_lt h]
 ·rw [List.getElem?_eq_none (by simp;omega),List.getElem?_eq_none (by simp;omega)]
theorem aBo {r:Rules}(a:okR r)(h:chk r=some 0){f:Flight}(g:Good f):Fak f r=some ((List.range r.Rules.length).map λj=>(aH false (aV r (tkF f r) f.From (spn f.From f.To) j):Int)):=by
 have c:=aA a h;have d:=c.l;have b:=tkF_GB a h g.trk;unfold Fak;have m1:make' 8 (r.Rules.length:Int) (0:Int)=some ((List.range r.Rules.length).map λ_=>(0:Int)):=by
  unfold make';rw [if_pos ⟨by omega,by omega,by omega⟩,Int.toNat_natCast,aCq]
 have m2:make' 1 (r.Rules.length:Int) false=some ((List.range r.Rules.length).map λ_=>false):=by
  unfold make';rw [if_pos ⟨by omega,by omega,by omega⟩,Int.toNat_natCast,aCq]
 simp only [zD];rw [m1,zA,m2,zA];unfold Fed Fes;rw [aCz a h (by have:=g.many;omega),zA,aMo b,zA,zA,aDt b g (by omega),zA]
theorem aEj (f:Nat->List fM): ∀(n:Nat),(∀k,k<n-> ∀x∈f k,x.Rule=(k:Int))-> ∀i:Nat,((((List.range n).map f).flatten).filter λx=>decide (x.Rule=(i:Int))).length=if i<n then(f i).length else 0
 |0,_,i=>by simp
 |n+1,b,i=>by
  have j:=aEj f n (λk _=>b k (by omega)) i;have h:=b n (by omega);have l:((List.range (n+1)).map f).flatten=((List.range n).map f).flatten++f n:=by
   rw [List.range_succ,List.map_append,List.flatten_append];simp
  rw [l,List.filter_append,List.length_append,j]
  by_cases c:i=n
  ·subst c;have e:(f i).filter (λx=>decide (x.Rule=(i:Int)))=f i:=List.filter_eq_self.2 λx a=>dT (h x a)
   rw [e,if_neg (Nat.lt_irrefl i),if_pos (Nat.lt_succ_self i),Nat.zero_add]
  ·have e:(f n).filter (λx=>decide (x.Rule=(i:Int)))=[]:=List.filter_eq_nil_iff.2 λx a=>by
    rw [h x a];simp only [decide_eq_true_eq];omega
   rw [e,List.length_nil,Nat.add_zero]
   by_cases d:i<n
   ·rw [if_pos d,if_pos (by omega)]
   ·rw [if_neg d,if_neg (by omega)]
theorem evsR_all2 {a:Int} (y:0<=a/\a<=4194304) (b:List (List Int)) (z:b.length<=1000) (u: ∀x∈b,x.length<=20000): ∃E:List fM,Fbv b a=some E/\E.length<=20000000/\(∀x∈E,∃i:Nat,i<b.length/\x.Rule=(i:Int))/\ ∀(i:Nat) l,b[i]? =some l->(E.filter λx=>decide (x.Rule=(i:Int))).length=aH false l:=by
 obtain⟨f,e⟩: ∃f:Nat->List fM,∀(i:Nat) l,b[i]? =some l->aKx a (i:Int) l 0 (f i)/\(f i).length<=l.length:=by
  have q: ∀i:Nat,∃j:List fM,∀l,b[i]? =some l->aKx a (i:Int) l 0 j/\j.length<=l.length:=by
   intro i
   cases h:b[i]? with
   |none=>exact⟨[],λl c=>by cases c⟩
   |some l=>
    obtain⟨j,A,B⟩:=aVo a (i:Int) l l.length 0 (by omega);exact⟨j,λ_ c=>by obtain rfl:=oI c;exact⟨A,B⟩⟩
  exact⟨λi=>Classical.choose (q i),λi=>Classical.choose_spec (q i)⟩
 have v: ∀i:Nat,((List.range (i+1)).map f).flatten=((List.range i).map f).flatten++f i:=λi=>by
  rw [List.range_succ,List.map_append,List.flatten_append];simp
 have w: ∀i,i<=b.length->(((List.range i).map f).flatten).length<=i*20000:=by
  intro i
  induction i with
  |zero=>intro _;simp
  |succ i C=>
   intro hi;obtain⟨l,c⟩: ∃l,b[i]? =some l:=⟨_,gE (by omega)⟩;have q:=(e i l c).2;have n:=u l (qS c);have:=C (by omega);rw [v,List.length_append,Nat.succ_mul];omega
 refine⟨((List.range b.length).map f).flatten,?_,?_,λx o=>?_,λi l c=>?_⟩
 ·have p:Fc2 b a ([],0)=some (((List.range b.length).map f).flatten):=by
   unfold Fc2;have D:(([]:List fM),(0:Int))=(λ(i:Nat)=>(((List.range i).map f).flatten,(i:Int))) 0:=rfl;rw [D];refine xB (λ(i:Nat)=>(((List.range i).map f).flatten,(i:Int))) b _ (by omega) ?_ ?_
   ·intro k i l c hi;have H:=w i (by omega);have q:=e i l c;have n:=u l (qS c);have t:i*20000<=1000*20000:=Nat.mul_le_mul_right _ (by omega);have r:Fhb b a (i:Int) (((List.range i).map f).flatten,0)=some (((List.range i).map f).flatten++f i):=evR_ok y (by omega) c q.1 _ FU (jP (by omega)) (by omega) (Nat.zero_le _) (λh=>absurd h (Nat.lt_irrefl 0));simp only [zD];rw [yA hi,zL,r,zA,fC hi (by omega),v]
   ·intro k;simp only [zD];rw [yC,zK]
  unfold Fbv;rw [p,zA]
 ·have:=w b.length (Nat.le_refl _);have t:b.length*20000<=1000*20000:=Nat.mul_le_mul_right _ z;omega
 ·obtain⟨_,F,o⟩:=List.mem_flatten.1 o;obtain⟨k,d,rfl⟩:=List.mem_map.1 F;have d:=List.mem_range.1 d;obtain⟨m,hm⟩: ∃m,b[k]? =some m:=⟨_,gE d⟩;exact⟨k,d,(aCw (e k m hm).1).1 x o⟩
 ·have hi:=(gS.1 c).1;obtain⟨_,n⟩:=aCw (e i l c).1;rw [aEj f b.length (λk d=>by
   obtain⟨m,hm⟩: ∃m,b[k]? =some m:=⟨_,gE d⟩;exact(aCw (e k m hm).1).1) i,if_pos hi,n false (λq=>by cases q),List.drop_zero]
theorem refL1_eq {E:List fM}{R:Nat} (l:E.length<=20000000) (d: ∀x∈E,∃i:Nat,i<R/\x.Rule=(i:Int)):
  Fcu E (0,(List.range R).map λ_=>(0:Int))=some ((List.range R).map λi:Nat=>((E.filter λx=>decide (x.Rule=(i:Int))).length:Int)):=by
 unfold Fcu;have f:((0:Int),(List.range R).map λ_=>(0:Int))=(λ(k:Nat)=>((k:Int),(List.range R).map λi:Nat=>(((E.take k).filter λx=>decide (x.Rule=(i:Int))).length:Int))) 0:=rfl;rw [f,xB (λ(k:Nat)=>((k:Int),(List.range R).map λi:Nat=>(((E.take k).filter λx=>decide (x.Rule=(i:Int))).length:Int))) E _ (by omega) ?_ ?_]
 ·intro h k x a b;obtain⟨i,hi,e⟩:=d x (qS a);have n:((E.take k).filter λx=>decide (x.Rule=(i:Int))).length<=20000000:=by
   have:=List.length_filter_le (λx:fM=>decide (x.Rule=(i:Int))) (E.take k);rw [List.length_take]at this;omega
  simp only [zD];rw [yA b,zL,yB a,zA,e,aHl (λi:Nat=>(((E.take k).filter λx=>decide (x.Rule=(i:Int))).length:Int)) hi,zA,zA,wrap_i64 (by omega) (by omega)];rw [aCy (g:=λi:Nat=>(((E.take (k+1)).filter λx=>decide (x.Rule=(i:Int))).length:Int)) hi (λj _=>?_),zA,fC b (by omega)];rw [bY a,List.filter_append,List.length_append]
  by_cases c:j=i
  ·subst c;rw [if_pos rfl,List.filter_cons_of_pos (by rw [e];simp),List.filter_nil,List.length_singleton];simp
  ·rw [if_neg c,List.filter_cons_of_neg (by rw [e];simp;omega),List.filter_nil,List.length_nil,Nat.add_zero]
 ·intro h;simp only [zD];rw [yC,zK,List.take_length]
theorem good_span {f:Flight}(g:Good f):aMh f.From f.To=0:=by
 have fr:=g.frm;have a:=g.span;unfold aMh;rw [if_neg (by omega),if_neg (by omega)]
theorem evV_shape {r:Rules}{l:List Track}{f:Flight}(g:Good f)(_:r.Rules.length<=1000):(0<=f.From/\f.From<=4194304)/\(evV r l f.From f.To).length=r.Rules.length/\ ∀x∈evV r l f.From f.To,x.length<=20000:=by
 have fr:=g.frm;have c:=g.span;have d:spn f.From f.To=(f.To-f.From+1).toNat:=rfl;refine⟨⟨by omega,by omega⟩,aAc _ _,λx a=>?_⟩;rw [vS]at a;obtain⟨_,_,rfl⟩:=List.mem_map.1 a;rw [wO];omega
theorem aGw {r:Rules}(a:okR r)(h:chk r=some 0){f:Flight}(g:Good f):Fa2 f r=some ((List.range r.Rules.length).map λj=>(aH false (aV r (flF f r) f.From (spn f.From f.To) j):Int)):=by
 have b:=aA a h;have t:=b.l;have c:=flF_GB a h g;obtain⟨s1,_,d⟩:=evV_shape (r:=r) (l:=flF f r) g (by omega);obtain⟨_,e,k,n,o⟩:=evsR_all2 s1 (evV r (flF f r) f.From f.To) (by omega) d;unfold Fa2;have m1:make' 8 (r.Rules.length:Int) (0:Int)=some ((List.range r.Rules.length).map λ_=>(0:Int)):=by
  unfold make';rw [if_pos ⟨by omega,by omega,by omega⟩,Int.toNat_natCast,aCq]
 simp only [zD];rw [m1,zA,full_eq a h (by have:=g.many;omega),zA,Truths_eq c (good_span g),zA,e,zA,refL1_eq k (λx p=>by obtain⟨i,_,q⟩:=n x p;exact⟨i,by omega,q⟩),zA]
 congr 1
 refine aF λj s=>?_
 rw [o j (aV r (flF f r) f.From (spn f.From f.To) j) (by rw [vS];exact jW _ s)]
theorem aMb {r:Rules}(b:okR r)(h:chk r=some 0){f:Flight}(g:Good f):Fa2 f r=Fak f r:=by
 rw [aGw b h g,aBo b h g];have e:=(fl_two b h g f.From f.To).1;rw [vS,vS]at e;congr 1;refine aF λj c=>?_;have a:=jW (λj=>aV r (tkF f r) f.From (spn f.From f.To) j) c;rw [e,jW (λj=>aV r (flF f r) f.From (spn f.From f.To) j) c]at a;rw [oI a]
theorem events_ok {r:Rules}(a:okR r)(h:chk r=some 0){f:Flight}(g:Good f): ∃q,Fak f r=some q/\q.length=r.Rules.length/\ ∀x∈q,0<=x/\x<=20000:=by
 have c:=g.span;have d:spn f.From f.To=(f.To-f.From+1).toNat:=rfl;refine⟨_,aBo a h g,by simp,λx b=>?_⟩;obtain⟨j,_,rfl⟩:=List.mem_map.1 b;have:=aCs (aV r (tkF f r) f.From (spn f.From f.To) j) false;rw [wO]at this;omega
def aP:List Int->Int
 | []=>0
 |x::l=>x+aP l
theorem uN: ∀(a b:List Int),aP (a++b)=aP a+aP b
 | [],b=>by simp [aP]
 |x::a,b=>by rw [List.cons_append,aP,aP,uN a b];omega
theorem wS: ∀(l:List Int) (j:Nat) (x y:Int),l[j]? =some x->aP (l.set j y)=aP l-x+y
 | [],j,x,y,h=>by simp at h
 |a::l,0,x,y,h=>by
  obtain rfl:a=x:=by simpa using h
  rw [List.set_cons_zero,aP,aP];omega
 |a::l,j+1,x,y,h=>by rw [List.set_cons_succ,aP,aP,wS l j x y (by simpa using h)];omega
theorem aEk: ∀{l:List Int},(∀x∈l,0<=x)->0<=aP l/\ ∀x∈l,x<=aP l
 | [],_=>⟨by simp [aP],by simp⟩
 |a::l,h=>by
  obtain⟨d,c⟩:=aEk (l:=l) λx b=>h x (List.mem_cons_of_mem _ b)
  have:=h a List.mem_cons_self;rw [aP];refine⟨by omega,λx b=>?_⟩;rcases List.mem_cons.1 b with rfl|b
  ·omega
  ·have:=c x b;omega
theorem aJm: ∀{l:List Int},(∀x∈l,1<=x)->(l.length:Int)<=aP l
 | [],_=>by simp [aP]
 |a::l,h=>by
  have c:=aJm (l:=l) λx b=>h x (List.mem_cons_of_mem _ b)
  have:=h a List.mem_cons_self;rw [aP,List.length_cons];omega
def qJ (a b:List Int):List Int:=List.zipWith (· + ·) a b
theorem uQ {a b:List Int}{R:Nat}(c:a.length=R)(d:b.length=R):(qJ a b).length=R:=by unfold qJ;rw [List.length_zipWith];omega
theorem aBy {a b:List Int}{k:Nat}{x y:Int}(c:a[k]? =some x)(d:b[k]? =some y):(qJ a b)[k]? =some (x+y):=by
 unfold qJ;rw [List.getElem?_zipWith,c,d]
theorem addE_getD {a b:List Int}{R:Nat}(c:a.length=R)(d:b.length=R)(k:Nat):(qJ a b).getD k 0=a.getD k 0+b.getD k 0:=by
 simp only [List.getD_eq_getElem?_getD];by_cases h:k<R;rw [aBy (gE (by omega)) (gE (by omega)),gE (by omega),gE (by omega)];rfl;rw [List.getElem?_eq_none (by rw [uQ c d];omega),List.getElem?_eq_none (by omega),List.getElem?_eq_none (by omega)];rfl
theorem addE_mem {a b:List Int}{n:Int}(h:n∈qJ a b): ∃x∈a,∃y∈b,n=x+y:=by
 obtain⟨j,c⟩:=List.getElem?_of_mem h;unfold qJ at c;rw [List.getElem?_zipWith]at c
 cases ha:a[j]? with
 |none=>rw [ha]at c;simp at c
 |some x=>
  cases hb:b[j]? with
  |none=>rw [ha,hb]at c;simp at c
  |some y=>
   rw [ha,hb]at c;exact⟨x,qS ha,y,qS hb,(oI c).symm⟩
structure TR (R:Nat)(x:gK):Prop where
 hi:x.Hidden=false
 fl:0<=x.Flights
 el:x.Events.length=R
 eb: ∀e∈x.Events,0<=e/\e<=20000*x.Flights
structure TI (R:Nat)(n:Int)(E:Nat->Int)(l:List gK):Prop where
 kd: ∀(i j:Nat) (x y:gK),l[i]? =some x->l[j]? =some y->i<j->x.Key≠y.Key
 tr: ∀x∈l,TR R x
 sf:aP (l.map gK.Flights)=n
 se: ∀k,aP (l.map λx=>x.Events.getD k 0)=E k
def bump (x:gK)(ev:List Int):gK:=⟨x.Key,x.Hidden,x.Flights+1,qJ x.Events ev⟩
theorem TI.fl_le {R:Nat}{n:Int}{E:Nat->Int}{l:List gK}(h:TI R n E l){x:gK}(a:x∈l):x.Flights<=n:=by
 have:=(aEk (l:=l.map gK.Flights) λ_ b=>by obtain⟨z,c,rfl⟩:=List.mem_map.1 b;exact(h.tr z c).fl).2 x.Flights (List.mem_map_of_mem a);rwa [h.sf]at this
theorem bump_TI {R:Nat}{n:Int}{E:Nat->Int}{l:List gK} (h:TI R n E l) {j:Nat}{x:gK} (f:l[j]? =some x) {ev:List Int} (p:ev.length=R) (q: ∀e∈ev,0<=e/\e<=20000):
  TI R (n+1) (λk=>E k+ev.getD k 0) (l.set j (bump x ev)):=by
 have d:=h.tr x (qS f);have get: ∀{i:Nat}{y:gK},(l.set j (bump x ev))[i]? =some y-> ∃z,l[i]? =some z/\y.Key=z.Key:=λ {i y} c=>by
  rw [List.getElem?_set]at c;split at c
  ·rename_i e;subst e;split at c
   ·obtain rfl:=oI c;exact⟨x,f,rfl⟩
   ·cases c
  ·exact⟨y,c,rfl⟩
 refine⟨λi k y z c r o=>?_,λy c=>?_,?_,λk=>?_⟩
 ·obtain⟨s,t,a2⟩:=get c;obtain⟨u,v,w⟩:=get r;rw [a2,w];exact h.kd i k s u t v o
 ·rcases List.mem_or_eq_of_mem_set c with c|rfl
  ·exact h.tr y c
  ·refine⟨d.hi,by have:=d.fl;show 0<=x.Flights+1;omega,uQ d.el p,λe A=>?_⟩;obtain⟨a,B,b,C,rfl⟩:=addE_mem A;have:=d.eb a B;have:=q b C;show _/\_<=20000*(x.Flights+1);omega
 ·rw [List.map_set,wS _ j x.Flights _ (by rw [List.getElem?_map,f];rfl),h.sf];show n-x.Flights+(x.Flights+1)=_;omega
 ·rw [List.map_set,wS _ j (x.Events.getD k 0) _ (by rw [List.getElem?_map,f];rfl),h.se];show E k-_+(qJ x.Events ev).getD k 0=_;rw [addE_getD d.el p];omega
theorem getD_zero (R k:Nat):(List.replicate R (0:Int)).getD k 0=0:=by
 rw [List.getD_eq_getElem?_getD,List.getElem?_replicate];split<;>rfl
theorem new_TI {R:Nat}{n:Int}{E:Nat->Int}{l:List gK} (h:TI R n E l) {b:Str} (o: ∀x∈l,x.Key≠b):TI R n E (l++[⟨b,false,0,List.replicate R 0⟩]):=by
 refine⟨λi j x y a d f=>?_,λx a=>?_,?_,λ_=>?_⟩
 ·have p:=(gS.1 d).1;rw [List.length_append,List.length_singleton]at p;rw [List.getElem?_append_left (by omega)]at a
  by_cases c:j<l.length
  ·rw [List.getElem?_append_left c]at d;exact h.kd i j x y a d f
  ·rw [List.getElem?_append_right (by omega),show j-l.length=0 by omega]at d;obtain rfl:_=y:=by simpa using d
   exact o x (qS a)
 ·rcases mA.1 a with a|a
  ·exact h.tr x a
  ·obtain rfl:=mS.1 a;exact⟨rfl,Int.le_refl _,List.length_replicate,λ_ q=>by rw [(List.mem_replicate.1 q).2];exact⟨Int.le_refl _,by show(0:Int)<=20000*0;omega⟩⟩
 ·rw [List.map_append,uN,h.sf];simp [aP]
 ·rw [List.map_append,uN,h.se,List.map_singleton,getD_zero];simp [aP]
theorem tabL2_ok {rows:List gK}{j:Nat}{x:gK}{ev:List Int}{R:Nat} (l:rows[j]? =some x) (o:ev.length=R) (w:R<=1000) (p:x.Events.length=R) (q: ∀e∈x.Events,0<=e/\e<=1000000000) (r: ∀e∈ev,0<=e/\e<=20000) (f:List (Str×Int)):
  Fcr (j:Int) f ev (ev.length:Int) (0,rows)=some (rows.set j ⟨x.Key,x.Hidden,x.Flights,qJ x.Events ev⟩,f):=by
 have b:=(gS.1 l);have z:=uQ p o;have s:=b.1;unfold Fcr;have t:((0:Int),rows)=(λ(k:Nat)=>((k:Int),rows.set j ⟨x.Key,x.Hidden,x.Flights,(qJ x.Events ev).take k++x.Events.drop k⟩)) 0:=by
  show _=(_,_);simp only [List.take_zero,List.nil_append,List.drop_zero];rw [<-b.2,List.set_getElem_self];rfl
 rw [t];refine xB (λ(k:Nat)=>((k:Int),rows.set j ⟨x.Key,x.Hidden,x.Flights,(qJ x.Events ev).take k++x.Events.drop k⟩)) ev _ (by omega) ?_ ?_
 ·intro k i y c hi;obtain⟨a,d⟩: ∃a,x.Events[i]? =some a:=⟨_,gE (by omega)⟩;have u:=aBy d c;have h:((qJ x.Events ev).take i).length=i:=by rw [List.length_take];omega
  have v:x.Events.drop i=a::x.Events.drop (i+1):=by
   rw [List.drop_eq_getElem_cons (by omega)]
   congr 1
   exact oI ((gE _).symm.trans d)
  have A:=q a (qS d);have B:=r y (qS c);simp only [zD];rw [yA hi,zL,yB c,zA,yB (i:=j) (by rw [List.getElem?_set_self b.1]),zA];simp only [];rw [v,aFb _ _ _ i h,zA,wrap_i64 (n:=a+y) (by omega) (by omega),fC hi (by omega),aDs _ _ _ _ i h,zA];unfold set';rw [if_pos ⟨by omega,by rw [List.length_set];omega⟩,zA,Int.toNat_natCast,List.set_set,bY u,List.append_assoc];rfl
 ·intro k;simp only [zD];rw [yC,zK,List.take_of_length_le (by omega),List.drop_eq_nil_of_le (by omega),List.append_nil]
def evs (r:Rules)(f:Flight):List Int:=(Fak f r).getD []
theorem evs_ok {r:Rules}(b:okR r)(h:chk r=some 0){f:Flight}(g:Good f):Fak f r=some (evs r f)/\(evs r f).length=r.Rules.length/\ ∀x∈evs r f,0<=x/\x<=20000:=by
 obtain⟨q,a,c,d⟩:=events_ok b h g;have e:evs r f=q:=by unfold evs;rw [a];rfl
 rw [e];exact⟨a,c,d⟩
def kyO (f:Flight)(b:Int):Str:=(Fax f b).getD []
theorem kyO_ok {f:Flight} (g:Good f) (b:Int):Fax f b=some (kyO f b):=by
 have a: ∃s,Fax f b=some s:=by
  unfold Fax;simp only [zD]
  by_cases c2:b=2
  ·rw [dT c2];exact⟨_,rfl⟩
  ·by_cases c3:b=3
   ·rw [qD c2,dT c3];exact⟨_,rfl⟩
   ·by_cases c4:b=4
    ·rw [qD c2,qD c3,dT c4];simp only [zK,zL];unfold Fcs Few Fdd;have:=g.day;rw [if_pos ⟨rfl,by omega,by omega⟩];exact⟨_,rfl⟩
    ·rw [qD c2,qD c3,qD c4];exact⟨_,rfl⟩
 obtain⟨s,c⟩:=a;have e:kyO f b=s:=by unfold kyO;rw [c];rfl
 rw [e];exact c
def evT (r:Rules)(m:Mask)(l:List Flight)(i k:Nat):Int:=aP ((l.take i).map λf=>(evs r (mfl m f)).getD k 0)
theorem evT_next {r:Rules}{m:Mask}{l:List Flight}{i:Nat}{f:Flight}(a:l[i]? =some f)(k:Nat):evT r m l (i+1) k=evT r m l i k+(evs r (mfl m f)).getD k 0:=by
 unfold evT;rw [bY a,List.map_append,uN,List.map_singleton];simp [aP]
theorem TI.len {R:Nat}{n:Int}{E:Nat->Int}{l:List gK}(h:TI R n E l)(a: ∀x∈l,1<=x.Flights):(l.length:Int)<=n:=by
 have:=aJm (l:=l.map gK.Flights) λ_ b=>by obtain⟨z,c,rfl⟩:=List.mem_map.1 b;exact a z c
 rwa [h.sf,List.length_map]at this
def aDq (rows:List gK)(a:Str):Nat:=rows.findIdx λx=>decide (x.Key=a)
def bEd (R:Nat)(rows:List gK)(a:Str):List gK:=if aDq rows a<rows.length then rows else rows++[⟨a,false,0,List.replicate R 0⟩]
def stpK (R:Nat)(rows:List gK)(a:Str)(ev:List Int):List gK:=
 match (bEd R rows a)[aDq rows a]? with
 |some y=>(bEd R rows a).set (aDq rows a) (bump y ev)
 |none=>rows
theorem bGb {R:Nat}{rows a:List gK}{b:Str}{ev:List Int}{j:Nat}{y:gK}(h:a[j]? =some y)(c:a=bEd R rows b)(d:j=aDq rows b):a.set j (bump y ev)=stpK R rows b ev:=by
 subst c d;unfold stpK;rw [h]
def aCb (r:Rules)(m:Mask)(b:Int)(l:List Flight)(i:Nat):List gK:=(l.take i).foldl (λs f=>stpK r.Rules.length s (kyO (mfl m f) b) (evs r (mfl m f))) []
theorem aPq {r:Rules}{m:Mask}{b:Int}{l:List Flight}{i:Nat}{f:Flight}(a:l[i]? =some f):aCb r m b l (i+1)=stpK r.Rules.length (aCb r m b l i) (kyO (mfl m f) b) (evs r (mfl m f)):=by
 unfold aCb;rw [bY a,List.foldl_append];rfl
theorem aQv {b:Type}(p:b->Bool): ∀(l:List b) (j:Nat) (y:b),l[j]? =some y->p y=true->(∀(i:Nat) x,l[i]? =some x->i<j->p x=false)->l.findIdx p=j
 | [],j,y,h,_,_=>by simp at h
 |a::l,0,y,h,c,_=>by
  obtain rfl:a=y:=by simpa using h
  rw [List.findIdx_cons,c];rfl
 |a::l,j+1,y,h,c,d=>by
  rw [List.findIdx_cons,d 0 a rfl (by omega)];have:=aQv p l j y h c λi x e _=>d (i+1) x e (by omega)
  rw [this];rfl
theorem aXt {R:Nat}{n:Int}{E:Nat->Int}{rows:List gK}(h:TI R n E rows){j:Nat}{y:gK}(a:rows[j]? =some y):aDq rows y.Key=j:=
 aQv _ rows j y a (dT rfl) λi x b hi=>qD (h.kd i j x y b a hi)
theorem bAl {rows:List gK}{a:Str}(h:a∉rows.map gK.Key):aDq rows a=rows.length:=by
 unfold aDq;refine List.findIdx_eq_length.2 λ_ b=>?_;exact qD λe=>h (by rw [<-e];exact List.mem_map_of_mem b)
theorem bFp {R n:Nat}{E:Nat->Int}{rows:List gK} (A:n<=300) (B:R<=1000) (h:TI R (n:Int) E rows) (u: ∀x∈rows,1<=x.Flights) (a:Str):
  ∃(b:List gK) (j:Nat) (y:gK),(gB (gI (!aSe (aY (rows.map gK.Key) 0) a) λk=>
   gQ k (gI (rows.length:Int) λi=>gI (aMv (aY (rows.map gK.Key) 0) a i) λl=>gI (R:Int) λo=>gB (make' 8 o (0:Int)) λp=>gB (app' 56 rows [gK.mk a false 0 p]) λr=>some (r,i,l))
    (some (rows,mM (aY (rows.map gK.Key) 0) a 0,aY (rows.map gK.Key) 0))) (λq=>some q))=some (b,(j:Int),aY (b.map gK.Key) 0)/\
   b[j]? =some y/\TI R (n:Int) E b/\(∀(q:Nat) x,b[q]? =some x->q≠j->1<=x.Flights)/\(∀x∈b,x∈rows\/x.Key=a)/\y.Key=a/\b=bEd R rows a/\j=aDq rows a:=by
 have C:=h.len u;have v:aSe (aY (rows.map gK.Key) 0) a=(rows.map gK.Key).any λx=>decide (x=a):=aHx a _ 0
 by_cases c:a∈rows.map gK.Key
 ·obtain⟨j,z,w⟩:=uM a (rows.map gK.Key) 0 c;rw [List.getElem?_map]at w;obtain⟨y,s,rfl⟩:=Option.map_eq_some_iff.1 w;refine⟨rows,j,y,?_,s,h,λq x f _=>u x (qS f),λx f=> .inl f,rfl,(by unfold bEd;rw [if_pos (by rw [aXt h s];exact(gS.1 s).1)]),(aXt h s).symm⟩;have t:aSe (aY (rows.map gK.Key) 0) y.Key=true:=by
   rw [v,List.any_eq_true];exact⟨_,c,dT rfl⟩
  simp only [zD];rw [t,z,Nat.zero_add];rfl
 ·have t:aSe (aY (rows.map gK.Key) 0) a=false:=by
   rw [v,List.any_eq_false];intro x f;simp only [decide_eq_true_eq];rintro rfl;exact c f
  refine⟨rows++[⟨a,false,0,List.replicate R 0⟩],rows.length,⟨a,false,0,List.replicate R 0⟩,?_,by simp,new_TI h λx f e=>c (by rw [<-e];exact List.mem_map_of_mem f),λq x f _=>?_,λx f=>?_,rfl,(by unfold bEd;rw [if_neg (by rw [bAl c];exact Nat.lt_irrefl _)]),(bAl c).symm⟩
  ·simp only [zD];rw [t];simp only [Bool.not_false,zL];have hm:make' 8 (R:Int) (0:Int)=some (List.replicate R 0):=by
    unfold make';rw [if_pos ⟨by omega,by omega,by omega⟩,Int.toNat_natCast]
   rw [hm,zA,ap56 _ _ (by simp only [List.length_singleton];omega),zA,zA,aFe _ _ t,List.map_append,List.map_singleton,aFo,Nat.zero_add,List.length_map]
  ·by_cases d:q<rows.length
   ·rw [List.getElem?_append_left d]at f;exact u x (qS f)
   ·have:=(gS.1 f).1;rw [List.length_append,List.length_singleton]at this;omega
  ·rcases mA.1 f with f|f
   ·exact .inl f
   ·obtain rfl:=mS.1 f;exact .inr rfl
theorem aMe {l:List Flight}{r:Rules}{m:Mask} (b:Int) (D:okR r) (h:chk r=some 0) (E:Gm m) (hh:m.Hide.length<=9223372036854775807) (Y:l.length<=300) (J: ∀f∈l,Good f):
  ∃rows,Fe3 l r m b (l.length:Int) ([],0,([]:List (Str×Int)))=some rows/\TI r.Rules.length (l.length:Int) (evT r m l l.length) rows/\(∀x∈rows,1<=x.Flights)/\(∀x∈rows,∃f∈l,x.Key=kyO (mfl m f) b)/\rows=aCb r m b l l.length:=by
 have K:=aA D h;have hR:=K.l;unfold Fe3;rw [show(([]:List gK),(0:Int),([]:List (Str×Int)))=(λ(i:Nat) (s:List gK)=>(s,(i:Int),aY (s.map gK.Key) 0)) 0 []from rfl];refine bM (λ(i:Nat) (s:List gK)=>(s,(i:Int),aY (s.map gK.Key) 0)) l (λ(i:Nat) (s:List gK)=>TI r.Rules.length (i:Int) (evT r m l i) s/\(∀x∈s,1<=x.Flights)/\(∀x∈s,∃f∈l,x.Key=kyO (mfl m f) b)/\s=aCb r m b l i) (λrows:List gK=>TI r.Rules.length (l.length:Int) (evT r m l l.length) rows/\(∀x∈rows,1<=x.Flights)/\(∀x∈rows,∃f∈l,x.Key=kyO (mfl m f) b)/\rows=aCb r m b l l.length) (by omega) ?_ ?_ [] ⟨⟨by simp,by simp,rfl,λk=>by simp [evT,aP]⟩,by simp,by simp,rfl⟩
 ·rintro k i s f u hi ⟨t1,t2,t3,t4⟩;have F:=J f (qS u);have v:=aOn E F;obtain⟨L,G,H⟩:=evs_ok D h v;obtain⟨a,j,y,I,d,A,M,N,O,P,Q⟩:=bFp (by omega) (by omega) t1 t2 (kyO (mfl m f) b);have ty:=A.tr y (qS d);have yl:=A.fl_le (qS d);have yf:=ty.fl;have B:=(gS.1 d).1;refine⟨a.set j (bump y (evs r (mfl m f))),⟨?_,λx o=>?_,λx o=>?_,(by rw [aPq u,<-t4,<-bGb d P Q])⟩,?_⟩
  ·have q:=bump_TI A d G H;have e:(λk=>evT r m l i k+(evs r (mfl m f)).getD k 0)=evT r m l (i+1):=funext λk=>(evT_next u k).symm
   rw [e]at q;exact q
  ·obtain⟨q,w⟩:=List.getElem?_of_mem o
   by_cases c:j=q
   ·subst c;rw [List.getElem?_set_self B]at w;obtain rfl:=oI w;show 1<=y.Flights+1;omega
   ·rw [List.getElem?_set_ne c]at w;exact M q x w (Ne.symm c)
  ·rcases List.mem_or_eq_of_mem_set o with o|rfl
   ·rcases N x o with o|e
    ·exact t3 x o
    ·exact⟨f,qS u,e⟩
   ·exact⟨f,qS u,O⟩
  ·simp only [zD]at I⊢;rw [yA hi,zL,yB u,zA,masked_eq f m E (okt_of F) hh,zA,kyO_ok v b,zA];have C:(gQ (!aSe (aY (s.map gK.Key) 0) (kyO (mfl m f) b)) (gB (make' 8 (r.Rules.length:Int) (0:Int)) λp=>gB (app' 56 s [gK.mk (kyO (mfl m f) b) false 0 p]) λt=>some (t,(s.length:Int),aMv (aY (s.map gK.Key) 0) (kyO (mfl m f) b) (s.length:Int))) (some (s,mM (aY (s.map gK.Key) 0) (kyO (mfl m f) b) 0,aY (s.map gK.Key) 0)))=some (a,(j:Int),aY (a.map gK.Key) 0):=by
    rw [<-I];generalize (gQ (!aSe (aY (s.map gK.Key) 0) (kyO (mfl m f) b)) _ _)=z
    cases z<;>rfl
   rw [C,zA];simp only [];rw [yB d,zA,wrap_i64 (n:=y.Flights+1) (by omega) (by omega),L,zA];have S:set' a (j:Int) ⟨y.Key,y.Hidden,y.Flights+1,y.Events⟩=some (a.set j ⟨y.Key,y.Hidden,y.Flights+1,y.Events⟩):=by
    unfold set';rw [if_pos ⟨by omega,by omega⟩,Int.toNat_natCast]
   rw [S,zA];rw [tabL2_ok (j:=j) (x:=⟨y.Key,y.Hidden,y.Flights+1,y.Events⟩) (R:=r.Rules.length) (by rw [List.getElem?_set_self B]) G (by omega) ty.el (λe T=>by have:=ty.eb e T;omega) H,zA];simp only [];rw [List.set_set,fC hi (by omega)];have X:(a.set j (bump y (evs r (mfl m f)))).map gK.Key=a.map gK.Key:=by
    rw [List.map_set];apply List.ext_getElem?;intro q;rw [List.getElem?_set];split
    ·rename_i c;subst c;rw [List.getElem?_map,d];simp [bump,B]
    ·rfl
   show k (_,_,_)=k (_,_,_);rw [X];rfl
 ·rintro k s ⟨t1,t2,t3⟩;simp only [zD];rw [yC,zK];exact⟨s,rfl,t1,t2,t3⟩
def hdn (x:gK):gK:=⟨x.Key,true,0,[]⟩
def qR:List gK->Nat
 | []=>0
 |x::l=>(if x.Hidden=true then 1 else 0)+qR l
theorem aJu: ∀l,qR l<=l.length
 | []=>Nat.le_refl _
 |x::l=>by
  have:=aJu l;rw [qR,List.length_cons];split<;>omega
theorem aAh: ∀(l:List gK) (j:Nat) (x y:gK),l[j]? =some x->x.Hidden=false->y.Hidden=true->qR (l.set j y)=qR l+1
 | [],j,x,y,h,_,_=>by simp at h
 |a::l,0,x,y,h,b,c=>by
  obtain rfl:a=x:=by simpa using h
  rw [List.set_cons_zero,qR,qR,b,c];simp;omega
 |a::l,j+1,x,y,h,b,c=>by rw [List.set_cons_succ,qR,qR,aAh l j x y (by simpa using h) b c];omega
theorem aEs: ∀{l:List gK},(∀x∈l,x.Hidden=true)->qR l=l.length
 | [],_=>rfl
 |x::l,h=>by
  rw [qR,h x List.mem_cons_self,aEs λy a=>h y (List.mem_cons_of_mem _ a),List.length_cons];simp;omega
theorem aBm: ∀{l:List gK},(∀x∈l,x.Hidden=false)->qR l=0
 | [],_=>rfl
 |x::l,h=>by
  rw [qR,h x List.mem_cons_self,aBm λy a=>h y (List.mem_cons_of_mem _ a)];simp
def aIa (least:Int)(x:gK):Prop:=(x.Hidden=true/\x.Flights=0/\x.Events=[])\/(x.Hidden=false/\least<=x.Flights)
structure HI (n:Nat)(least:Int)(i:Nat)(s:Int×Int×List gK):Prop where
 l:s.2.2.length=n
 c:s.1=(qR s.2.2:Int)
 a: ∀(j:Nat) (x:gK),s.2.2[j]? =some x->(j<i->aIa least x)/\(i<=j->x.Hidden=false)
 f:(s.2.1= -1/\ ∀(j:Nat) (x:gK),s.2.2[j]? =some x->j<i->x.Hidden=true)\/ ∃q:Nat,s.2.1=(q:Int)/\q<i/\ ∃x,s.2.2[q]? =some x/\x.Hidden=false
theorem hide_L1 {rows:List gK}{least:Int} (M:rows.length<=300) (h: ∀x∈rows,x.Hidden=false):
  ∃s:Int×Int×List gK,Fa9 least (rows.length:Int) (0,-1,0,rows)=some s/\HI rows.length least rows.length s:=by
 unfold Fa9;rw [show((0:Int),(-1:Int),(0:Int),rows)=(λ(i:Nat) (s:Int×Int×List gK)=>(s.1,s.2.1,(i:Int),s.2.2)) 0 (0,-1,rows)from rfl];refine bM (λ(i:Nat) (s:Int×Int×List gK)=>(s.1,s.2.1,(i:Int),s.2.2)) rows (HI rows.length least) (λs=>HI rows.length least rows.length s) (by omega) ?_ ?_ (0,-1,rows) ⟨rfl,by rw [aBm h];rfl,λj x d=>⟨λq=>by omega,λ_=>h x (qS d)⟩,.inl ⟨rfl,λj x _ q=>by omega⟩⟩
 ·rintro k i ⟨c,f,l⟩- -hi ⟨B,C,t,D⟩;simp only at B C t D;have J:=aJu l;have r:i<l.length:=by omega
  obtain⟨x,d⟩: ∃x,l[i]? =some x:=⟨_,gE r⟩;have F:=(t i x d).2 (Nat.le_refl _)
  by_cases q:x.Flights<least
  ·have K:set' l (i:Int) (gK.mk x.Key true 0 [])=some (l.set i (hdn x)):=by unfold set';rw [if_pos ⟨by omega,by omega⟩,Int.toNat_natCast];rfl
   refine⟨(c+1,f,l.set i (hdn x)),⟨by simp [B],by show c+1=_;rw [aAh l i x _ d F rfl,C];rfl,λj y b=>?_,?_⟩,?_⟩
   ·simp only at b
    by_cases e:i=j
    ·subst e;rw [List.getElem?_set_self r]at b;obtain rfl:=oI b;exact⟨λ_=> .inl ⟨rfl,rfl,rfl⟩,λz=>by omega⟩
    ·rw [List.getElem?_set_ne e]at b;exact⟨λz=>(t j y b).1 (by omega),λz=>(t j y b).2 (by omega)⟩
   ·rcases D with ⟨e,a⟩|⟨p,e,H,z,u,E⟩
    ·refine .inl ⟨e,λj y b z=>?_⟩;simp only at b
     by_cases e:i=j
     ·subst e;rw [List.getElem?_set_self r]at b;obtain rfl:=oI b;rfl
     ·rw [List.getElem?_set_ne e]at b;exact a j y b (by omega)
    ·exact .inr ⟨p,e,by omega,z,by show(l.set i _)[p]? =_;rw [List.getElem?_set_ne (by omega)];exact u,E⟩
   ·simp only [zD];rw [yA hi,zL,yB d,zA,dT q,zL,wrap_i64 (n:=c+1) (by omega) (by omega),K,zA,zA];simp only [];rw [fC hi (by omega)]
  ·have I: ∀(j:Nat) (y:gK),l[j]? =some y->(j<i+1->aIa least y)/\(i+1<=j->y.Hidden=false):=λj y b=>by
    refine⟨λz=>?_,λz=>(t j y b).2 (by omega)⟩
    by_cases e:j=i
    ·subst e;obtain rfl:=oI (d.symm.trans b);exact .inr ⟨F,by omega⟩
    ·exact(t j y b).1 (by omega)
   have fin: ∀g:Bool,∃o,HI rows.length least (i+1) o/\(gB (gQ g (some (c,(i:Int),l)) (some (c,f,l))) λ⟨v,w,A⟩=>k (v,w,IntKind.i64.wrap ((i:Int)+1),A))=k (o.1,o.2.1,((i+1:Nat):Int),o.2.2)\/(f= -1/\g=false):=λg=>by
    cases g with
    |true=>exact⟨(c,(i:Int),l),.inl ⟨⟨B,C,I,.inr ⟨i,rfl,by omega,x,d,F⟩⟩,by rw [zL,zA];simp only [];rw [fC hi (by omega)]⟩⟩
    |false=>
     rcases D with ⟨e,a⟩|⟨p,e,H,z,u,E⟩
     ·exact⟨(c,f,l),.inr ⟨e,rfl⟩⟩
     ·exact⟨(c,f,l),.inl ⟨⟨B,C,I,.inr ⟨p,e,by omega,z,u,E⟩⟩,by rw [zK,zA];simp only [];rw [fC hi (by omega)]⟩⟩
   simp only [zD];rw [yA hi,zL,yB d,zA,qD q,zK];rcases D with ⟨e,a⟩|⟨p,e,H,z,u,E⟩
   ·subst e;obtain⟨o,⟨G,a2⟩|⟨_,a⟩⟩:=fin true
    ·refine⟨o,G,?_⟩;rw [<-a2];rfl
    ·cases a
   ·subst e;rw [qD (by omega: ¬(p:Int)<0),zK,yB u,zA,zA];obtain⟨o,⟨G,a2⟩|⟨a,_⟩⟩:=fin (decide (x.Flights<z.Flights))
    ·refine⟨o,G,?_⟩;rw [<-a2]
    ·omega
 ·rintro k ⟨c,f,l⟩ L;simp only [zD];rw [yC,zK];exact⟨_,rfl,L⟩
theorem hide_ok {rows:List gK}{least:Int} (u:rows.length<=300) (h: ∀x∈rows,x.Hidden=false):
  ∃b,Fan rows least=some b/\b.length=rows.length/\(∀x∈b,aIa least x)/\(qR b≠1\/b.length=1):=by
 obtain⟨⟨c,_,l⟩,e,n,v,s,t⟩:=hide_L1 (least:=least) u h;simp only at n v s t;have o: ∀x∈l,aIa least x:=λx i=>by
  obtain⟨j,k⟩:=List.getElem?_of_mem i;exact(s j x k).1 (by have:=(gS.1 k).1;omega)
 unfold Fan;simp only [zD];rw [e,zA];simp only []
 by_cases d:c=1
 ·rw [dT d,zL];rcases t with ⟨e,a⟩|⟨p,e,_,z,r,w⟩
  ·subst e;refine⟨l,rfl,n,o,.inr ?_⟩;have q:=aEs (l:=l) λx i=>by
    obtain⟨j,k⟩:=List.getElem?_of_mem i;exact a j x k (by have:=(gS.1 k).1;omega)
   omega
  ·subst e;have B:=(gS.1 r).1;have y:set' l (p:Int) (gK.mk z.Key true 0 [])=some (l.set p (hdn z)):=by unfold set';rw [if_pos ⟨by omega,by omega⟩,Int.toNat_natCast];rfl
   rw [dT (by omega:(0:Int)<=(p:Int)),zA,zL,yB r,zA,y,zA];refine⟨l.set p (hdn z),rfl,by rw [List.length_set,n],λx i=>?_,.inl ?_⟩
   ·rcases List.mem_or_eq_of_mem_set i with i|rfl
    ·exact o x i
    ·exact .inl ⟨rfl,rfl,rfl⟩
   ·rw [aAh l p z _ r w rfl];omega
 ·rw [qD d,zK,zA,zK];exact⟨l,rfl,n,o,.inl (by omega)⟩
theorem floor_eq (N n:Int) (h: -1125899906842624<=N/\N<=1125899906842624) (d:1<=n/\n<=1125899906842624):Fb6 N n=some (co n N):=by
 have i:=Int.emod_nonneg N (b:=n) (by omega);have j:=Int.emod_lt_of_pos N (b:=n) (by omega);have t:=tm_neg N n d.1;have e:=Int.tdiv_mul_add_tmod N n;have k: -1125899906842624<=N.tdiv n/\N.tdiv n<=1125899906842624:=by
  have f:=Int.natAbs_tdiv_le_natAbs N n;have l:(N.tdiv n).natAbs<=N.natAbs:=f;omega
 unfold Fb6 aEr aMu co;rw [if_neg (by omega),zA,if_neg (by omega),zA,Go.OB.wrap_i64 (n:=N.tdiv n) (by omega) (by omega)];simp only [zD,xC]
 by_cases c:N.tmod n<0
 ·rw [if_pos c]at t⊢;rw [zA,Go.OB.wrap_i64 (n:=N.tdiv n-1) (by omega) (by omega)];have a:(N.tdiv n-1)*n=N-N%n:=by rw [Int.sub_mul,Int.one_mul];omega
  rw [a,Go.OB.wrap_i64 (by omega) (by omega)]
 ·rw [if_neg c]at t⊢;rw [zA];have a:N.tdiv n*n=N-N%n:=by omega
  rw [a,Go.OB.wrap_i64 (by omega) (by omega)]
theorem aHo (m:Mask) (t:Track) (hh:m.Hide.length<=9223372036854775807):Fdy m t (false,0)=some (hid m t.Name):=by
 unfold Fdy;refine xB (λ(i:Nat)=>((m.Hide.take i).any λy=>decide (t.Name=y),(i:Int))) m.Hide (some (hid m t.Name)) hh ?_ ?_;intro b i x a hi;have c:m.Hide.take (i+1)=m.Hide.take i++[x]:=by rw [List.take_add_one,a];rfl
 simp only [zD];rw [yA hi,zL,yB a,zA,fC hi hh,c,List.any_append,show decide (x=t.Name)=decide (t.Name=x)from decide_eq_decide.2 ⟨Eq.symm,Eq.symm⟩,aC,zA];simp;intro b;simp only [zD,List.take_length];rw [yC,zK];rfl
theorem aHm (m:Mask) (g:dS) (j:Int) (d:at' m.Grains j=some g) (e:1<=g.N/\g.N<=1125899906842624) (l:List fD) (o:l.length<=20000) (f: ∀x∈l,-1125899906842624<=x.N/\x.N<=1125899906842624):
  Fdw m j l (0,[])=some (l.map (cs g.N)):=by
 unfold Fdw;refine xB (λ(i:Nat)=>((i:Int),(l.take i).map (cs g.N))) l (some (l.map (cs g.N))) (by omega) ?_ ?_
 ·intro h i x a hi;have k:l.take (i+1)=l.take i++[x]:=by rw [List.take_add_one,a];rfl
  have b:((l.take i).map (cs g.N)).length=i:=by simp;omega
  have n: ∀y:fD,app' 24 ((l.take i).map (cs g.N)) [y]=some ((l.take i).map (cs g.N)++[y]):=by
   intro y;unfold app';rw [if_pos];simp [maxLen];omega
  simp only [zD];rw [yA hi,zL,yB a,zA,fC hi (by omega),k,List.map_append];simp only [d,zA,floor_eq x.N g.N (f x (qS a)) e,n];have c:cs g.N x=if decide (2<=x.Mark)then⟨x.At,co g.N x.N,x.Mark⟩else x:=rfl
  cases hq:decide (2<=x.Mark)
  ·rw [zK,zA];have:cs g.N x=x:=by rw [c,hq];rfl
   simp [this]
  ·rw [zL,zA];have:cs g.N x=⟨x.At,co g.N x.N,x.Mark⟩:=by rw [c,hq];rfl
   simp [this]
 ·intro h;simp only [zD,List.take_length];rw [yC,zK]
theorem aHe (m:Mask) (b:Gm m) (t:Track) (l:t.Series.Samples.length<=20000) (e: ∀x∈t.Series.Samples,-1125899906842624<=x.N/\x.N<=1125899906842624):
    Fc0 m t (0,t.Series.Samples)=some (grs t.Name m.Grains t.Series.Samples):=by
 unfold Fc0;have hm:=b.many;refine xB (λ(i:Nat)=>((i:Int),grs t.Name (m.Grains.take i) t.Series.Samples)) m.Grains (some (grs t.Name m.Grains t.Series.Samples)) (by omega) ?_ ?_;intro f i x a hi;have j:m.Grains.take (i+1)=m.Grains.take i++[x]:=by rw [List.take_add_one,a];rfl
 have d:=b.gr x (qS a);obtain⟨_,k⟩:=aIp (s:=t.Name) (gs:=m.Grains.take i) (λg d=>(b.gr g (List.mem_of_mem_take d)).1) e;simp only [zD];rw [yA hi,zL,yB a,zA,fC hi (by omega),j,aRs];by_cases c:x.Track=t.Name;rw [qD (λh=>h c),zK,aHm m x (i:Int) (yB a) d _ (by omega) k,zA,zA,if_pos c];rw [dT c,zL,zA,if_neg c];intro f;simp only [zD,List.take_length];rw [yC,zK]
theorem aQg (f:Flight) (m:Mask) (c:Gm m) (o:Okt f) (hh:m.Hide.length<=9223372036854775807):Fb1 f m=some (mfl m f):=by
 have r:=o.many;have e:Fdb f m (0,[])=some (mts m f.Tracks):=by
  unfold Fdb;refine xB (λ(i:Nat)=>((i:Int),mts m (f.Tracks.take i))) f.Tracks (some (mts m f.Tracks)) (by omega) ?_ ?_
  ·intro h i x a hi;obtain⟨j,k⟩:=o.trk x (qS a);have l:f.Tracks.take (i+1)=f.Tracks.take i++[x]:=by rw [List.take_add_one,a];rfl
   have b:=aJk m (f.Tracks.take i);rw [List.length_take]at b;have p:app' 56 (mts m (f.Tracks.take i)) [Track.mk x.Name (Series.mk x.Series.Den (grs x.Name m.Grains x.Series.Samples)) x.Long]=some (mts m (f.Tracks.take i)++[mtk m x]):=by
    unfold app';rw [if_pos]
    ·rfl
    ·simp [maxLen];omega
   simp only [zD];rw [yA hi,zL,yB a,zA,aHo m x hh,zA,l,aOs,fC hi (by omega)]
   cases hid m x.Name
   ·rw [zK,aHe m c x j k,zA,p,zA,zA];rfl
   ·rw [zL,zA];rfl
  ·intro h;simp only [zD,List.take_length];rw [yC,zK]
 have d:=c.days;have q:=o.day;have t1:=Int.tmod_nonneg m.Days q.1;have t2:=Int.tmod_lt_of_pos f.Day (show 0<m.Days by omega);have s:=Int.tdiv_mul_add_tmod f.Day m.Days;have t:(f.Day.tdiv m.Days).natAbs<=f.Day.natAbs:=Int.natAbs_tdiv_le_natAbs f.Day m.Days;unfold Fb1;simp only [zD];unfold aMu;rw [e,if_neg (by omega)];simp only [zA];rw [Go.OB.wrap_i64 (n:=f.Day.tdiv m.Days) (by omega) (by omega),show f.Day.tdiv m.Days*m.Days=f.Day-f.Day.tmod m.Days by omega,Go.OB.wrap_i64 (by omega) (by omega)];unfold mfl
 cases m.Tails<;>rfl
theorem aKp (f:Flight)(b:Int):Fcl f b=Fax f b:=rfl
theorem bGz (rows:List gK)(a:Str):aDq rows a<=rows.length:=List.findIdx_le_length
theorem refT2_eq {f:Flight}{b:Int}{a:Str} (l:Fax f b=some a) {rows:List gK} (s:rows.length<=1000):Fh7 b rows f 0=some ((aDq rows a:Nat):Int):=by
 have t:=bGz rows a;unfold Fh7;have n:(rows.take (aDq rows a)).length=aDq rows a:=by rw [List.length_take];omega
 refine xB (λ(i:Nat)=>(i:Int)) (rows.take (aDq rows a)) _ (by omega) ?_ ?_
 ·intro k i x h hi;rw [n]at hi;have d:rows[i]? =some x:=by rw [List.getElem?_take_of_lt hi]at h;exact h
  have j:=(gS.1 d).1;have o: ¬x.Key=a:=by
   have:=List.not_of_lt_findIdx (p:=λx:gK=>decide (x.Key=a)) (xs:=rows) hi;rw [(gS.1 d).2]at this;simpa using this
  simp only [zD];rw [yA j,zL,yB d,zA,aKp,l,zA,dT o,zA,zL,fC j (by omega)]
 ·intro k;rw [n];simp only [zD]
  by_cases c:aDq rows a<rows.length
  ·obtain⟨x,h⟩: ∃x,rows[aDq rows a]? =some x:=⟨_,gE c⟩;have r:x.Key=a:=by
    have:=List.findIdx_getElem (p:=λx:gK=>decide (x.Key=a)) (xs:=rows) (w:=c);have e:rows[aDq rows a]=x:=(gS.1 h).2;unfold aDq at e;rw [e]at this;exact of_decide_eq_true this
   rw [yA c,zL,yB h,zA,aKp,l,zA,qD (λq=>q r),zA,zK]
  ·rw [qD (by omega),zK,zA,zK]
theorem refT3_eq {rows:List gK}{j:Nat}{x:gK}{ev:List Int}{R:Nat} (h:rows[j]? =some x) (l:ev.length=R) (v:R<=1000) (o:x.Events.length=R) (p: ∀e∈x.Events,0<=e/\e<=1000000000) (q: ∀e∈ev,0<=e/\e<=20000):
  Fha (j:Int) ev (0,rows)=some (rows.set j ⟨x.Key,x.Hidden,x.Flights,qJ x.Events ev⟩):=by
 have b:=(gS.1 h);have w:=uQ o l;have r:=b.1;unfold Fha;have s:((0:Int),rows)=(λ(k:Nat)=>((k:Int),rows.set j ⟨x.Key,x.Hidden,x.Flights,(qJ x.Events ev).take k++x.Events.drop k⟩)) 0:=by
  show _=(_,_);simp only [List.take_zero,List.nil_append,List.drop_zero];rw [<-b.2,List.set_getElem_self];rfl
 rw [s];refine xB (λ(k:Nat)=>((k:Int),rows.set j ⟨x.Key,x.Hidden,x.Flights,(qJ x.Events ev).take k++x.Events.drop k⟩)) ev _ (by omega) ?_ ?_
 ·intro k i y c hi;obtain⟨a,d⟩: ∃a,x.Events[i]? =some a:=⟨_,gE (by omega)⟩;have t:=aBy d c;have f:((qJ x.Events ev).take i).length=i:=by rw [List.length_take];omega
  have u:x.Events.drop i=a::x.Events.drop (i+1):=by
   rw [List.drop_eq_getElem_cons (by omega)]
   congr 1
   exact oI ((gE _).symm.trans d)
  have z:=p a (qS d);have A:=q y (qS c);simp only [zD];rw [yA hi,zL,yB (i:=j) (by rw [List.getElem?_set_self b.1]),zA];simp only [];rw [u,aFb _ _ _ i f,zA,yB c,zA,wrap_i64 (n:=a+y) (by omega) (by omega),fC hi (by omega),aDs _ _ _ _ i f,zA];unfold set';rw [if_pos ⟨by omega,by rw [List.length_set];omega⟩,zA,Int.toNat_natCast,List.set_set,bY t,List.append_assoc];rfl
 ·intro k;simp only [zD];rw [yC,zK,List.take_of_length_le (by omega),List.drop_eq_nil_of_le (by omega),List.append_nil]
theorem bDv {r:Rules}{m:Mask}{b:Int}{l:List Flight}{i:Nat}(_:i<=l.length):aCb r m b (l.take i) (l.take i).length=aCb r m b l i:=by
 unfold aCb;rw [List.take_length]
theorem rTable_L1 {l:List Flight}{r:Rules}{m:Mask} (b:Int) (A:okR r) (h:chk r=some 0) (B:Gm m) (hh:m.Hide.length<=9223372036854775807) (Q:l.length<=300) (D: ∀f∈l,Good f):
  Fgw l r m b ([],0)=some (aCb r m b l l.length):=by
 have H:=aA A h;have S:=H.l;unfold Fgw;have I:(([]:List gK),(0:Int))=(λ(i:Nat)=>(aCb r m b l i,(i:Int))) 0:=rfl;rw [I];refine xB (λ(i:Nat)=>(aCb r m b l i,(i:Int))) l _ (by omega) ?_ ?_
 ·intro k i f u hi;have E:=D f (qS u);have o:=aOn B E;obtain⟨J,K,L⟩:=evs_ok A h o;have d:(l.take i).length=i:=by rw [List.length_take];omega
  obtain⟨s,-,t1,t2,-,t4⟩:=aMe (l:=l.take i) b A h B hh (by omega) (λf u=>D f (List.mem_of_mem_take u));rw [bDv (by omega)]at t4;rw [<-t4];obtain⟨a,j,y,-,v,F,_,_,_,G,C⟩:=bFp (by omega) (by omega) t1 t2 (kyO (mfl m f) b);have sl:s.length<=300:=by have:=t1.len t2;rw [d]at this;omega
  have ty:=F.tr y (qS v);have M:=F.fl_le (qS v);rw [d]at M;have yf:=ty.fl;have N:=(gS.1 v).1;have w:=kyO_ok o b;have z:(gQ (decide ((j:Int)=(s.length:Int))) (gB (Fcl (mfl m f) b) λp=>gB (make' 8 (r.Rules.length:Int) (0:Int)) λq=>gB (app' 56 s [gK.mk p false 0 q]) λt=>some t) (some s))=some a:=by
   rw [G,C];unfold bEd
   by_cases c:aDq s (kyO (mfl m f) b)<s.length
   ·rw [qD (by omega),zK,if_pos c]
   ·have hp:=bGz s (kyO (mfl m f) b);have hm:make' 8 (r.Rules.length:Int) (0:Int)=some (List.replicate r.Rules.length 0):=by
     unfold make';rw [if_pos ⟨by omega,by omega,by omega⟩,Int.toNat_natCast]
    rw [dT (by omega),zL,aKp,w,zA,hm,zA,ap56 _ _ (by simp only [List.length_singleton];omega),zA,if_neg c]
  simp only [zD];rw [yA hi,zL,yB u,zA,aQg f m B (okt_of E) hh,zA,refT2_eq w (by omega),zA,<-C];rw [z,zA,yB v,zA,wrap_i64 (n:=y.Flights+1) (by omega) (by omega),aMb A h o,J,zA];have O:set' a (j:Int) ⟨y.Key,y.Hidden,y.Flights+1,y.Events⟩=some (a.set j ⟨y.Key,y.Hidden,y.Flights+1,y.Events⟩):=by
   unfold set';rw [if_pos ⟨by omega,by omega⟩,Int.toNat_natCast]
  rw [O,zA];rw [refT3_eq (j:=j) (x:=⟨y.Key,y.Hidden,y.Flights+1,y.Events⟩) (R:=r.Rules.length) (by rw [List.getElem?_set_self N]) K (by omega) ty.el (λe P=>by have:=ty.eb e P;omega) L,zA];simp only [];rw [List.set_set,fC hi (by omega),aPq u,<-t4,<-bGb v G C];rfl
 ·intro k;simp only [zD];rw [yC,zK]
def flt (l:List gK)(f:Int):Int:=match at' l f with |some z=>z.Flights|none=>0
def hidS (least:Int)(rows:List gK):Nat->Int×Int×List gK
 |0=>(0,-1,rows)
 |i+1=>
  match (hidS least rows i).2.2[i]? with
  |none=>hidS least rows i
  |some x=>if x.Flights<least then((hidS least rows i).1+1,(hidS least rows i).2.1,(hidS least rows i).2.2.set i (hdn x))
   else if (hidS least rows i).2.1<0\/x.Flights<flt (hidS least rows i).2.2 (hidS least rows i).2.1 then((hidS least rows i).1,(i:Int),(hidS least rows i).2.2)else hidS least rows i
structure HV (n i:Nat)(s:Int×Int×List gK):Prop where
 l:s.2.2.length=n
 c:0<=s.1/\s.1<=(i:Int)
 f:s.2.1= -1\/ ∃q:Nat,s.2.1=(q:Int)/\q<i
theorem aJg {least:Int}{rows:List gK}: ∀i,i<=rows.length->HV rows.length i (hidS least rows i)
 |0,_=>⟨rfl,⟨Int.le_refl _,Int.le_refl _⟩,.inl rfl⟩
 |i+1,hi=>by
  obtain⟨d,e,f⟩:=aJg (least:=least) (rows:=rows) i (by omega);have c:(hidS least rows i).2.1= -1\/ ∃q:Nat,(hidS least rows i).2.1=(q:Int)/\q<i+1:=by
   rcases f with h|⟨q,a,_⟩
   ·exact .inl h
   ·exact .inr ⟨q,a,by omega⟩
  rw [hidS];split
  ·exact⟨d,⟨e.1,by omega⟩,c⟩
  ·split
   ·exact⟨by show((hidS least rows i).2.2.set i _).length=_;rw [List.length_set,d],⟨by show 0<=(hidS least rows i).1+1;omega,by show(hidS least rows i).1+1<=_;omega⟩,c⟩
   ·split
    ·exact⟨d,⟨e.1,by show(hidS least rows i).1<=_;omega⟩,.inr ⟨i,rfl,by omega⟩⟩
    ·exact⟨d,⟨e.1,by omega⟩,c⟩
theorem aSp {least:Int}{rows:List gK}{i:Nat}(hi:i<rows.length): ∃x,(hidS least rows i).2.2[i]? =some x/\hidS least rows (i+1)=(if x.Flights<least then((hidS least rows i).1+1,(hidS least rows i).2.1,(hidS least rows i).2.2.set i (hdn x))
      else if (hidS least rows i).2.1<0\/x.Flights<flt (hidS least rows i).2.2 (hidS least rows i).2.1 then((hidS least rows i).1,(i:Int),(hidS least rows i).2.2)else hidS least rows i):=by
 have h:=aJg (least:=least) (rows:=rows) i (by omega);have a:=h.l;refine⟨_,gE (by omega),?_⟩;rw [hidS,gE (by omega)]
theorem flt_at {l:List gK}{q:Nat}{z:gK}(h:l[q]? =some z):flt l (q:Int)=z.Flights:=by
 unfold flt;rw [yB h]
theorem hideP_eq {least:Int}{rows:List gK} (u:rows.length<=300):Fa9 least (rows.length:Int) (0,-1,0,rows)=some (hidS least rows rows.length):=by
 unfold Fa9;have h:((0:Int),(-1:Int),(0:Int),rows)=(λ(i:Nat)=>((hidS least rows i).1,(hidS least rows i).2.1,(i:Int),(hidS least rows i).2.2)) 0:=rfl;rw [h];refine xB (λ(i:Nat)=>((hidS least rows i).1,(hidS least rows i).2.1,(i:Int),(hidS least rows i).2.2)) rows _ (by omega) ?_ ?_
 ·rintro k i- -hi;obtain⟨j,o,a⟩:=aJg (least:=least) (rows:=rows) i (by omega);obtain⟨x,b,r⟩:=aSp (least:=least) hi;rw [r];generalize hidS least rows i=s at *
  obtain⟨c,_,l⟩:=s;simp only at j o a b⊢;simp only [zD];rw [yA hi,zL,yB b,zA]
  by_cases q:x.Flights<least
  ·have t:set' l (i:Int) (gK.mk x.Key true 0 [])=some (l.set i (hdn x)):=by unfold set';rw [if_pos ⟨by omega,by omega⟩,Int.toNat_natCast];rfl
   rw [dT q,zL,wrap_i64 (n:=c+1) (by omega) (by omega),t,zA,zA,if_pos q];simp only [];rw [fC hi (by omega)]
  ·rw [qD q,zK,if_neg q];rcases a with e|⟨p,e,_⟩
   ·subst e;rw [dT (by decide),zL,zA,zL,zA,if_pos (Or.inl (by decide))];simp only [];rw [fC hi (by omega)]
   ·subst e;obtain⟨z,d⟩: ∃z,l[p]? =some z:=⟨_,gE (by omega)⟩;rw [qD (by omega: ¬(p:Int)<0),zK,yB d,zA,zA,flt_at d]
    by_cases w:x.Flights<z.Flights
    ·rw [dT w,zL,zA,if_pos (Or.inr w)];simp only [];rw [fC hi (by omega)]
    ·rw [qD w,zK,zA,if_neg (by omega)];simp only [];rw [fC hi (by omega)]
 ·intro k;simp only [zD];rw [yC,zK]
theorem hideR_eq {m:Mask}{rows:List gK} (v:rows.length<=300):Ffj m (0,false,-1,0,rows)=some ((hidS m.Least rows rows.length).1,decide (0<=(hidS m.Least rows rows.length).2.1),(hidS m.Least rows rows.length).2.1,(hidS m.Least rows rows.length).2.2):=by
 unfold Ffj;have o:((0:Int),false,(-1:Int),(0:Int),rows)=(λ(i:Nat)=>((hidS m.Least rows i).1,decide (0<=(hidS m.Least rows i).2.1),(hidS m.Least rows i).2.1,(i:Int),(hidS m.Least rows i).2.2)) 0:=rfl;rw [o];refine xB (λ(i:Nat)=>((hidS m.Least rows i).1,decide (0<=(hidS m.Least rows i).2.1),(hidS m.Least rows i).2.1,(i:Int),(hidS m.Least rows i).2.2)) rows _ (by omega) ?_ ?_
 ·rintro k i- -hi;obtain⟨b,r,d⟩:=aJg (least:=m.Least) (rows:=rows) i (by omega);obtain⟨x,h,t⟩:=aSp (least:=m.Least) hi;rw [t];generalize hidS m.Least rows i=s at *
  obtain⟨c,_,l⟩:=s;simp only at b r d h⊢;simp only [zD];rw [b,yA hi,zL,yB h,zA]
  by_cases q:x.Flights<m.Least
  ·have u:set' l (i:Int) (gK.mk x.Key true 0 [])=some (l.set i (hdn x)):=by unfold set';rw [if_pos ⟨by omega,by omega⟩,Int.toNat_natCast];rfl
   rw [dT q,zL,wrap_i64 (n:=c+1) (by omega) (by omega),u,zA,zA,if_pos q];simp only [];rw [fC hi (by omega)]
  ·rw [qD q,zK,if_neg q];have d1:decide ((0:Int)<=(i:Int))=true:=dT (by omega);rcases d with e|⟨p,e,_⟩
   ·subst e;rw [dT (by decide:(-1:Int)<0),zL,zA,zL,zA,if_pos (Or.inl (by decide))];simp only [];rw [fC hi (by omega),d1]
   ·subst e;have d2:decide ((0:Int)<=(p:Int))=true:=dT (by omega);obtain⟨z,j⟩: ∃z,l[p]? =some z:=⟨_,gE (by omega)⟩;rw [qD (by omega: ¬(p:Int)<0),zK,yB j,zA,zA,flt_at j]
    by_cases w:x.Flights<z.Flights
    ·rw [dT w,zL,zA,if_pos (Or.inr w)];simp only [];rw [fC hi (by omega),d1]
    ·rw [qD w,zK,zA,if_neg (by omega)];simp only [];rw [fC hi (by omega),d2]
 ·intro k;have a:=(aJg (least:=m.Least) (rows:=rows) rows.length (Nat.le_refl _)).l;simp only [zD];rw [a,yC,zK]
def hidR (least:Int)(rows:List gK):Option (List gK):=
 gQ (decide ((hidS least rows rows.length).1=1)&&decide (0<=(hidS least rows rows.length).2.1))
  (gB (at' (hidS least rows rows.length).2.2 (hidS least rows rows.length).2.1) λx=>gB (set' (hidS least rows rows.length).2.2 (hidS least rows rows.length).2.1 (gK.mk x.Key true 0 [])) λy=>some y)
  (some (hidS least rows rows.length).2.2)
theorem hide_hidR {least:Int}{rows:List gK}(a:rows.length<=300):Fan rows least=hidR least rows:=by
 unfold Fan hidR;simp only [zD];rw [hideP_eq a,zA];generalize hidS least rows rows.length=s;obtain⟨c,_,_⟩:=s;simp only [];cases decide (c=1);rw [zK,zA,Bool.false_and,zK];rw [zL,zA,Bool.true_and]
theorem refT_hidR {m:Mask}{rows:List gK}(p:rows.length<=300):(gB (Ffj m (0,false,(-1),0,rows)) λ⟨d,e,b,a⟩=>
  gB (gB (gI (decide (d=1)) λh=>
  gQ h
  (some e)
  (some false)) λi=>
  gQ i
  (gB (at' a b) λj=>
  gB (set' a b (gK.mk j.Key true 0 [])) λk=>
  some k)
  (some a)) λn=>
  some (n,(0:Int)))=gB (hidR m.Least rows) λo=>some (o,0):=by
 unfold hidR;rw [hideR_eq p,zA];generalize hidS m.Least rows rows.length=s;obtain⟨c,_,_⟩:=s;simp only [zD];cases decide (c=1);rw [zK,zA,Bool.false_and];rw [zL,zA,Bool.true_and]
theorem totals_ok:Fg9=some true:=by decide+kernel
def aVb (l:List Flight)(r:Rules)(m:Mask)(b:Int):Int:=
 if (lfF l).getD 0≠0 then(lfF l).getD 0 else if (chk r).getD 0≠0 then(chk r).getD 0 else if (aHc m).getD 0≠0 then(aHc m).getD 0 else if 1<=b/\b<=4 then 0 else 7
theorem pU {o:Option Int}(h: ∃e,o=some e):o=some (o.getD 0):=by obtain⟨e,rfl⟩:=h;rfl
theorem aUn {l:List Flight}{r:Rules}{m:Mask}{b:Int} (h:okL kZ l) (d:okR r) (hm:aDe m) (c:aVb l r m b≠0):Fa5 l r m b=some ([],aVb l r m b):=by
 have e:=pU (aIt l);have f:=pU (aRh r);have i:=pU (aKm m);unfold Fa5;rw [uZ l h,aIq r d,aJn m hm];unfold aVb at c⊢;generalize (lfF l).getD 0=a1 at *;generalize (chk r).getD 0=a2 at *;generalize (aHc m).getD 0=a3 at *;rw [e,f,i];simp only [zD,zA,aJl];by_cases a:a1=0;by_cases c2:a2=0;by_cases c3:a3=0;by_cases c4:1<=b/\b<=4;simp [a,c2,c3,c4]at c;have:(decide (1<=b)&&decide (b<=4))=false:=by rw [Bool.and_eq_false_iff,decide_eq_false_iff_not,decide_eq_false_iff_not];omega
 rw [this];simp [a,c2,c3,c4,gQ];simp [a,c2,c3,gQ];simp [a,c2,gQ];simp [a,gQ]
structure TB (l:List Flight)(r:Rules)(m:Mask)(b:Int)(rows:List gK):Prop where
 gr:Gr' r
 ck:chk r=some 0
 gm:Gm m
 n:l.length<=300
 gf: ∀f∈l,Good f
 t:TI r.Rules.length (l.length:Int) (evT r m l l.length) rows
 p: ∀x∈rows,1<=x.Flights
 ky: ∀x∈rows,∃f∈l,x.Key=kyO (mfl m f) b
theorem aRn {l:List Flight}{r:Rules}{m:Mask}{b:Int} (h:okL kZ l) (d:okR r) (hm:aDe m) (a:aVb l r m b=0):
    ∃rows,TB l r m b rows/\rows.length<=300/\Fe3 l r m b (l.length:Int) ([],0,([]:List (Str×Int)))=some rows/\Fa5 l r m b=(gB (Fan rows m.Least) λe=>some (e,0))/\rows=aCb r m b l l.length:=by
 have i:=pU (aIt l);have c:=pU (aRh r);have j:=pU (aKm m);unfold aVb at a;split at a;exact absurd a (by assumption);split at a;exact absurd a (by assumption);split at a;exact absurd a (by assumption);split at a;rename_i k c2 c3 c4;simp only [ne_eq,Decidable.not_not]at k c2 c3;rw [k]at i;rw [c2]at c;rw [c3]at j;obtain⟨l1,l2⟩:=lfF_zero i;have n: ∀f∈l,Good f:=λf t=>good_of (l2 f t);have g2:=(good2_of j).toGm;obtain⟨rows,o,p,s,u,v⟩:=aMe b d c g2 hm.2.2.1.1 l1 n;have w:=p.len s;refine⟨rows,⟨aA d c,c,g2,l1,n,p,s,u⟩,by omega,o,?_,v⟩;unfold Fa5;rw [uZ l h,aIq r d,aJn m hm,i,c,j];have q:(decide (1<=b)&&decide (b<=4))=true:=by rw [Bool.and_eq_true,decide_eq_true_eq,decide_eq_true_eq];exact c4
 simp only [zD,zA,aJl];rw [qD (by simp),zK,zK,zK,q,Bool.not_true,zK,o,zA,qD (by omega),zK];exact absurd a (by decide)
theorem kyO_len {f:Flight} (g:Good f) (b:Int):(kyO f b).length<=30:=by
 unfold kyO Fax;simp only [zD]
 by_cases c2:b=2
 ·rw [dT c2];rcases g.tail with h|h
  ·show f.Tail.length<=30;rw [h];decide
  ·exact aBn h
 ·by_cases c3:b=3
  ·rw [qD c2,dT c3];exact aBn g.route
  ·by_cases c4:b=4
   ·rw [qD c2,qD c3,dT c4];simp only [zK,zL];unfold Fcs Few Fdd;have:=g.day;rw [if_pos ⟨rfl,by omega,by omega⟩];show(Lib.decDigits f.Day.toNat).length<=30;rw [Lib.decDigits_length];have:=Lib.nDigits_le20 f.Day.toNat (by omega);omega
   ·rw [qD c2,qD c3,qD c4];exact Nat.zero_le _
theorem ink_Bool (p:gW)(x:Bool){b:Nat}(a:p.out.length<=b)(h:b<=100000000000000):Gr (Ffs p x) (b+5):=by
 unfold Ffs Fhj Ffv
 cases x with
 |true=>rw [zL,app1 p.out _ (by rw [nM];simp only [List.length_cons,List.length_nil];omega),zA,zA,zA];exact Gr.some (by simp [nM];omega)
 |false=>rw [zK,app1 p.out _ (by rw [nM];simp only [List.length_cons,List.length_nil];omega),zA,zA,zA];exact Gr.some (by simp [nM];omega)
def aSb (x:gK):Prop:=x.Key.length<=1048576/\x.Events.length<=1048576
def hdB (v f:Int):(Int×Int×Int×(List gK)->Option (Int×Int×(List gK)))->Int×Int×Int×(List gK)->Option (Int×Int×(List gK)):=λh ⟨d,b,c,a⟩=>
 gI (decide (c<f)) λi=>
 gQ i
 (gB (gB (at' a c) λe=>
 gI (decide (e.Flights<v)) λj=>
 gQ j
 (gI (IntKind.i64.wrap (d+1)) λk=>
 gB (set' a c (gK.mk e.Key true 0 [])) λl=>
 some (k,b,l))
 (gB (gI (decide (b<0)) λn=>
 gQ n
 (some true)
 (gB (at' a b) λo=>
 gI (decide (e.Flights<o.Flights)) λp=>
 some p)) λq=>
 gQ q
 (some (d,c,a))
 (some (d,b,a)))) λ⟨r,s,t⟩=>
 gI (IntKind.i64.wrap (c+1)) λu=>
 h (r,s,u,t))
 (some (d,b,a))
theorem hdB_eq (p z:Int):Fa9 p z=fF (hdB p z):=rfl
theorem bBt {l b:List gK}{i:Int}{x:gK} (c: ∀x∈l,aSb x) (d:at' l i=some x) (h:set' l i (gK.mk x.Key true 0 [])=some b): ∀x∈b,aSb x:=by
 unfold set' at h;split at h
 ·obtain rfl:=oI h;intro z a;rcases List.mem_or_eq_of_mem_set a with a|rfl
  ·exact c z a
  ·exact⟨(c x (qS (zU d).2.2)).1,Nat.zero_le _⟩
 ·cases h
theorem hideN (p z:Int): ∀(n:Nat) (c f i:Int) (l:List gK) (r:Int×Int×List gK),eX (hdB p z) n (c,f,i,l)=some r->(∀x∈l,aSb x)-> ∀x∈r.2.2,aSb x
 |0,c,f,i,l,r,h,b=>by cases h
 |n+1,c,f,i,l,r,h,b=>by
  rw [eX]at h;unfold hdB at h;simp only [zD]at h
  cases hd:decide (i<z)
  ·rw [hd,zK]at h;obtain rfl:=oI h;exact b
  ·rw [hd,zL]at h;obtain⟨⟨_,_,d⟩,a,e⟩:=yN h;refine hideN p z n _ _ _ d r e ?_;obtain⟨x,j,a⟩:=yN a
   cases hq:decide (x.Flights<p)
   ·rw [hq,zK]at a;obtain⟨g,_,a⟩:=yN a
    cases g
    ·rw [zK]at a;cases a;exact b
    ·rw [zL]at a;cases a;exact b
   ·rw [hq,zL]at a;obtain⟨_,k,a⟩:=yN a
    cases a
    exact bBt b j k
theorem hide_rowS {l b:List gK}{p:Int} (i: ∀x∈l,aSb x) (h:Fan l p=some b): ∀x∈b,aSb x:=by
 unfold Fan at h;simp only [zD]at h;obtain⟨⟨_,_,_⟩,e,a⟩:=yN h;rw [hdB_eq]at e;unfold fF at e;have d:=hideN p _ _ _ _ _ _ _ e i;obtain⟨g,_,a⟩:=yN a;cases g;rw [zK]at a;obtain rfl:=oI a;exact d;rw [zL]at a;obtain⟨x,j,a⟩:=yN a;obtain⟨_,k,a⟩:=yN a;obtain rfl:=oI a;exact bBt d j k
theorem Table_tot {l:List Flight}{r:Rules}{m:Mask}{b:Int} (h:okL kZ l) (j:okR r) (hm:aDe m): ∃(a:List gK) (e:Int),Fa5 l r m b=some (a,e)/\a.length<=300/\ ∀x∈a,aSb x:=by
 by_cases c:aVb l r m b=0;obtain⟨rows,d,n,-,o,-⟩:=aRn h j hm c;obtain⟨a,k,_,-,-⟩:=hide_ok (least:=m.Least) n λx i=>(d.t.tr x i).hi;refine⟨a,0,by rw [o,k,zA],by omega,hide_rowS (λx i=>⟨?_,?_⟩) k⟩;obtain⟨f,p,e⟩:=d.ky x i;have:=kyO_len (aOn d.gm (d.gf f p)) b;rw [e];omega;rw [(d.t.tr x i).el];have:=d.gr.l;omega;exact⟨[],_,aUn h j hm c,Nat.zero_le _,λx i=>by cases i⟩
theorem ink_Row2 (p:gW)(x:gK){b:Nat}(c:aSb x)(d:p.out.length<=b)(h:b<=1000000000000):Gr (Fd3 p x) (b+30000000):=by
 have e:=c.1;have f:=c.2;unfold Fd3;refine(ink_Text p x.Key d (by omega)).bind λq a=>?_;refine(ink_Bool q x.Hidden a (by omega)).bind λq a=>?_;refine(aFl q x.Flights a (by omega)).bind λq a=>?_;refine(ink_Ints q x.Events a (by omega)).bind λq a=>?_;exact Gr.some (by show q.out.length<=_;omega)
theorem row_next {a b i:Nat}(h:a<=b+30000000)(c:22+30000000*i=b):a<=22+30000000*(i+1):=by rw [Nat.mul_add,Nat.mul_one,<-Nat.add_assoc,c];exact h
theorem row_last {a n:Nat}(h:a<=22+30000000*n)(b:n<=300):a<=10000000000:=by omega
theorem ink_Rows {l:List gK} (d:l.length<=300) (h: ∀x∈l,aSb x):Gr (Fd1 (gW.mk []) l) 10000000000:=by
 unfold Fd1;simp only [zD];refine(aFl (b:=0) (gW.mk []) _ (Nat.le_refl _) (by decide)).bind λ_ e=>?_;unfold Fjf;refine bM (λ(i:Nat) (s:List Int)=>((i:Int),s)) l (λi s=>s.length<=22+30000000*i) (λ(r:gW)=>r.out.length<=10000000000) (by omega) ?_ ?_ _ (by simpa using e);intro f i s y c hi a;have a:s.length<=22+30000000*i:=a;generalize hb:22+30000000*i=b0 at a;obtain⟨r,j,k⟩:=ink_Row2 (gW.mk s) y (h y (qS c)) a (by omega);refine⟨r.out,row_next k hb,?_⟩;simp only [zD];rw [yA hi,zL,yB c,zA,j,zA,fC hi (by omega)];intro f s a;simp only [zD];rw [yC,zK];exact⟨_,rfl,row_last a d⟩
theorem ink_Errno (p:gW)(n:Int){b:Nat}(a:p.out.length<=b)(h:b<=100000000000000):Gr (Ffr (gW.mk p.out) n) (b+22):=by
 unfold Ffr;exact(aFl p n a h).bind λ_ c=>Gr.some c
theorem aMl {l:List Flight}{r:Rules}{m:Mask} (h:okL kZ l) (b:okR r) (hm:aDe m):Fe6 l r m=some (if (lfF l).getD 0≠0 then(lfF l).getD 0 else if (chk r).getD 0≠0 then(chk r).getD 0 else(aHc m).getD 0):=by
 have c:=pU (aIt l);have d:=pU (aRh r);have e:=pU (aKm m);unfold Fe6;rw [aIm l h,rCheck_eq r b,aSi m hm (by have:=hm.2.2.2.1.1;omega)];generalize (lfF l).getD 0=a1 at *;generalize (chk r).getD 0=a2 at *;generalize (aHc m).getD 0=a3 at *;rw [c,d,e];simp only [zD,zA];by_cases a:a1=0;by_cases c2:a2=0;simp [a,c2,gQ];simp [a,c2,gQ];simp [a,gQ]
theorem rTable_eq {l:List Flight}{r:Rules}{m:Mask}{b:Int} (h:okL kZ l) (d:okR r) (hm:aDe m):Fc7 l r m b=Fa5 l r m b:=by
 by_cases c:aVb l r m b=0
 ·obtain⟨rows,e,f,-,i,j⟩:=aRn h d hm c;have z:(if (lfF l).getD 0≠0 then(lfF l).getD 0 else if (chk r).getD 0≠0 then(chk r).getD 0 else(aHc m).getD 0)=0/\1<=b/\b<=4:=by
   unfold aVb at c;split at c
   ·exact absurd c (by assumption)
   ·rename_i a;rw [if_neg a];split at c
    ·exact absurd c (by assumption)
    ·rename_i c2;rw [if_neg c2];split at c
     ·exact absurd c (by assumption)
     ·rename_i c3;split at c
      ·rename_i c4;exact⟨by simpa using c3,c4⟩
      ·exact absurd c (by decide)
  unfold Fc7;rw [aMl h d hm,z.1,zA];simp only [zD];rw [qD (by simp),zK,out9,zA];have q:(decide (b<1)||decide (4<b))=false:=by rw [Bool.or_eq_false_iff,decide_eq_false_iff_not,decide_eq_false_iff_not];omega
  rw [q,zK,rTable_L1 b d e.ck e.gm hm.2.2.1.1 e.n e.gf,<-j,zA,qD (by omega),zK,i,hide_hidR f];exact refT_hidR f
 ·rw [aUn h d hm c];unfold Fc7;rw [aMl h d hm,zA];simp only [zD];unfold aVb at c⊢;generalize (lfF l).getD 0=a1 at *
  generalize (chk r).getD 0=a2 at *
  generalize (aHc m).getD 0=a3 at *
  rw [out9]
  by_cases a:a1=0
  ·by_cases c2:a2=0
   ·by_cases c3:a3=0
    ·by_cases c4:1<=b/\b<=4
     ·simp [a,c2,c3,c4]at c
     ·have q:(decide (b<1)||decide (4<b))=true:=by rw [Bool.or_eq_true,decide_eq_true_eq,decide_eq_true_eq];omega
      rw [zA,q];simp [a,c2,c3,c4,gQ]
    ·simp [a,c2,c3,gQ]
   ·simp [a,c2,gQ]
  ·simp [a,gQ]
theorem rows9_ex {l:List gK}(e:Int)(a:l.length<=300)(h: ∀x∈l,aSb x): ∃t,Fde l e=some t:=by
 obtain⟨q,b,c⟩:=ink_Rows a h;obtain⟨_,d,_⟩:=ink_Errno q e c (by omega);unfold Fde;rw [b,zA,d,zA];unfold Fh0;exact⟨_,rfl⟩
theorem aQr (l:List Flight)(r:Rules)(m:Mask)(b:Int)(h:okL (λx=>kZ x) l)(c:bFe r)(hm:aDe m)(_hb:i64 b):Fgq l r m b=some true:=by
 have a:okR r:=c;obtain⟨_,e,f,i,j⟩:=Table_tot (b:=b) h a hm;obtain⟨_,k⟩:=rows9_ex e i j;unfold Fgq;rw [rTable_eq h a hm,f];simp only [zA,zD];rw [k,zA,zA,dT rfl,zL,totals_ok];rfl
end Go.Lf
