/- Laws that the claim stands on; no condition beyond those stated. -/
import Derived.Test.YtbjofgmdhbiekaaGreatDoorBKc
namespace Go.Lf
open Go.RowKit Go.OB Go.Fr1
theorem befM_t {a b:gV}:aMq a b=true↔a.Number<b.Number\/(a.Number=b.Number/\a.Word<b.Word):=by
 unfold aMq;simp only [Bool.or_eq_true,Bool.and_eq_true,decide_eq_true_eq]
theorem wh_ext {a b:gV}(h1:a.Number=b.Number)(d:a.Word=b.Word):a=b:=by
 cases a;cases b;simp only at h1 d;rw [h1,d]
def Ord (l:List gV):Prop:=l.Pairwise λa b=>aMq a b=true
theorem aGi {f:Type} [DecidableEq f]: ∀{l m:List f},l.Nodup->(∀x∈l,x∈m)->l.length<=m.length
 | [],_,_,_=>Nat.zero_le _
 |x::l,m,j,h=>by
  obtain⟨h1,k⟩:=List.nodup_cons.1 j;have g:=h x (List.mem_cons_self ..);have:=aGi (m:=m.erase x) k λy i=>by
   have d:y≠x:=λe=>h1 (by rw [<-e];exact i)
   rw [List.mem_erase_of_ne d];exact h y (List.mem_cons_of_mem _ i)
  rw [List.length_erase_of_mem g]at this;have:=List.length_pos_of_mem g;rw [List.length_cons];omega
section
variable {κ ν:Type} [DecidableEq κ]
def jO (m:List (κ×ν)):List κ:=m.map Prod.fst
theorem aKk (k:κ) (v:ν): ∀m:List (κ×ν),jO (kJ m k v)=if k∈jO m then jO m else jO m++[k]
 | []=>rfl
 |(a,b)::m=>by
  have d:=aKk k v m;rw [kJ]
  by_cases c:a=k
  ·subst c;rw [if_pos rfl];have:a∈jO ((a,b)::m):=List.mem_cons_self ..;rw [if_pos this];rfl
  ·rw [if_neg c];show a::jO (kJ m k v)=_;rw [d]
   by_cases c2:k∈jO m
   ·have c3:k∈jO ((a,b)::m):=List.mem_cons_of_mem _ c2;rw [if_pos c2,if_pos c3];rfl
   ·have c3: ¬k∈jO ((a,b)::m):=λh=>by
     rcases List.mem_cons.1 h with e|h
     ·exact c e.symm
     ·exact c2 h
    rw [if_neg c2,if_neg c3];rfl
theorem keys_mem (k x:κ) (v:ν) (m:List (κ×ν)):x∈jO (kJ m k v)↔x∈jO m\/x=k:=by
 rw [aKk];split;rename_i h;exact⟨.inl,λd=>d.elim id λe=>e▸h⟩;rw [mA,mS]
theorem keys_nd (k:κ) (v:ν) {m:List (κ×ν)} (h:(jO m).Nodup):(jO (kJ m k v)).Nodup:=by
 rw [aKk];split;exact h;rename_i d;rw [List.nodup_append];exact⟨h,List.pairwise_singleton _ _,λa f b g=>by rw [mS.1 g];exact λe=>d (e▸f)⟩
end
theorem sort_ord {l:List gV} (j:l.Nodup) (k:l.length<4611686018427387904): ∃r,Faf gV.Number gV.Word l=some r/\Ord r/\ ∀x,x∈r↔x∈l:=by
 have i:(l.mergeSort λx y=> !ltP gV.Number gV.Word y x).Perm l:=List.mergeSort_perm _ _;refine⟨_,if_pos k,?_,λx=>i.mem_iff⟩;have h1:=aDq (f:=gV.Number) (g:=gV.Word) l;have m:(l.mergeSort λx y=> !ltP gV.Number gV.Word y x).Nodup:=i.nodup_iff.2 j;refine(List.Pairwise.and h1 m).imp λ {a b} ⟨h,d⟩=>?_;rw [aKx]at h;rw [befM_t];by_cases c:a.Number=b.Number;right;refine⟨c,?_⟩;have:a.Word≠b.Word:=λe=>d (wh_ext c e);omega;left;omega
def sQ (s:fD)(a:Int):Int:=max 0 (64*a-s.Long+63)
def inC (p:Param)(lo hi base:Int)(c:Cell):Bool:=decide (lo<=bK p base c)&&decide (bK p base c<=hi)
theorem aYo (x:gV): ∀(l:List gV) (m:List (gV×Bool)),aI (l.foldl (λm w=>kJ m w true) m) x false=(decide (x∈l)||aI m x false)
 | [],m=>by simp
 |w::l,m=>by
  rw [List.foldl_cons,aYo x l,aEn]
  by_cases c:w=x
  ·subst c;simp
  ·rw [if_neg c];have:(x∈w::l)↔x∈l:=by
    rw [List.mem_cons];exact⟨λh=>h.elim (λe=>absurd e.symm c) id,.inr⟩
   rw [decide_eq_decide.2 this]
theorem ord_nd {l:List gV}(h:Ord l):l.Nodup:=by
 refine List.Pairwise.imp (λ {a b} d e=>?_) h;subst e;have:=befM_t.1 d;omega
def MemS (b:Book)(lo hi:Int)(s:fD)(w:gV):Prop:=b.Rests≠[]/\ ∃k,dC b.Rests<=k/\k<=dA b.Rests/\ ∃c∈gU (bV b s) 0,lo<=bK (bV b s) (k*16) c/\bK (bV b s) (k*16) c<=hi/\w∈dG c.Places (k*16)
theorem aOw {b:Book}(d:aQ b)(f:b.Rests≠[]):0<=dC b.Rests/\dC b.Rests<=dA b.Rests/\dA b.Rests<=262143:=by
 obtain⟨a,_,_,_,g,h,a0,z0,_⟩:=ends d.rs f;rw [g,h];omega
theorem aZo {b:Book}(f:aQ b){s:fD}(d:aJt b s){k:Int}(h:0<=k)(h1:k<=262143){c:Cell}(g:c∈gU (bV b s) 0):1024*k<=bK (bV b s) (k*16) c/\bK (bV b s) (k*16) c<1024*(k+1):=by
 have:=smp_ok (m:=b.Map) d.sz d.ck f.rs (base:=k*16) (by omega) (by omega) g;have i:64*(k*16)<=bK (bV b s) (k*16) c:=this.2.1;have j:bK (bV b s) (k*16) c<64*(k*16+16):=this.2.2;omega
theorem memS_r {b:Book} (i:aQ b) {s:fD} (j:aJt b s) {lo hi:Int}{w:gV} (h:MemS b lo hi s w):(0<=w.Number/\w.Number<=4194303)/\0<=w.Word/\w.Word<64:=by
 obtain⟨l,k,h1,_,c,m,-,-,n⟩:=h;have p:=aOw i l;obtain⟨-,g,-⟩:=jC (jI j.ck) m;obtain⟨x,f,rfl|rfl⟩:=(aS _ _ _).1 n;have d:=g x f;have:=d.f0;have:=d.f1;exact⟨⟨by show 0<=k*16+x.Frame;omega,by show k*16+x.Frame<=_;omega⟩,by show(0:Int)<=3;decide,by show(3:Int)<64;decide⟩;have d:=g x f;have:=d.f0;have:=d.f1;have:=d.w0;have:=d.w1;exact⟨⟨by show 0<=k*16+x.Frame;omega,by show k*16+x.Frame<=_;omega⟩,by show 0<=x.Word;omega,by show x.Word<64;omega⟩
def inN (names:List Str)(s:fD):Bool:=names.any λn=>decide (n=s.Track)
def farS (a:Int)(s:fD):Bool:=decide (128000<64*a-sQ s a)
def aKb (b:Book)(names:List Str)(a:Int):Bool:=b.Sources.any λs=>inN names s&&farS a s
def aSv (b:Book)(names:List Str)(a c:Int)(w:gV):Prop:= ∃s∈b.Sources,inN names s=true/\MemS b (sQ s a) (64*c+63) s w
def aJz (b:Book)(names:List Str):Bool:=names.any λn=> !(b.Sources.any λs=>decide (s.Track=n))
def aGu (a c:Int):Bool:=(decide (a<0)||decide (c<a))||decide (4194303<c)
def vC (b:Book)(names:List Str)(a c e:Int)(d:List gV×Int):Prop:=
 if e≠0 then d=([],e)else if aJz b names=true then d=([],4)else if aGu a c=true then d=([],9)else if 2000<c-a+1 then d=([],3)else if aKb b names a=true then d=([],3)else(d.2=0/\Ord d.1/\ ∀w,w∈d.1↔aSv b names a c w)
section
variable {b:Book}{names:List Str}{a c e:Int}
theorem spE (h:e≠0):vC b names a c e ([],e):=by unfold vC;rw [if_pos h]
theorem sp4 (h: ¬e≠0)(d:aJz b names=true):vC b names a c e ([],4):=by unfold vC;rw [if_neg h,if_pos d]
theorem sp9 (h: ¬e≠0)(d:aJz b names=false)(f:aGu a c=true):vC b names a c e ([],9):=by unfold vC;rw [if_neg h,if_neg (by rw [d];decide),if_pos f]
theorem sp3 (h: ¬e≠0)(d:aJz b names=false)(f:aGu a c=false)(g:2000<c-a+1):vC b names a c e ([],3):=by unfold vC;rw [if_neg h,if_neg (by rw [d];decide),if_neg (by rw [f];decide),if_pos g]
theorem spF (h: ¬e≠0)(d:aJz b names=false)(f:aGu a c=false)(g: ¬2000<c-a+1)(i:aKb b names a=true):vC b names a c e ([],3):=by unfold vC;rw [if_neg h,if_neg (by rw [d];decide),if_neg (by rw [f];decide),if_neg g,if_pos i]
theorem sp0 (h: ¬e≠0)(d:aJz b names=false)(f:aGu a c=false)(g: ¬2000<c-a+1)(i:aKb b names a=false){r:List gV}(j:Ord r)(hm: ∀w,w∈r↔aSv b names a c w):vC b names a c e (r,0):=by unfold vC;rw [if_neg h,if_neg (by rw [d];decide),if_neg (by rw [f];decide),if_neg g,if_neg (by rw [i];decide)];exact⟨rfl,j,hm⟩
end
theorem aDf {b:Book} (f:b.Sources.length<=9223372036854775807) (n:Str):(∃(s:fD) (i:Nat),Fay b n=some (s,true)/\b.Sources[i]? =some s/\s.Track=n)\/(Fay b n=some (fD.mk [] [] [] 0,false)/\ ∀s∈b.Sources,s.Track≠n):=by
 have g:Fdq b.Sources n=some (aLx (λs:fD=>decide (s.Track=n)) b.Sources 0):=by
  unfold Fdq Fjg;rw [yH,zD];exact jY b.Sources _ f (λk i x h1 d=>by simp only [zD,yD d,zT,yO h1,zC,fJ d f,Fgs]) (λk=>by simp only [zD,yE,zM])
 unfold Fay;rw [g,zC,zD];rcases aEp (λs:fD=>decide (s.Track=n)) b.Sources 0 with ⟨e,h⟩|⟨j,x,e,h1,d,-⟩
 ·right
  rw [e];exact⟨rfl,λs l m=>by have:=h s l;rw [dT m]at this;cases this⟩
 ·left
  rw [e,Nat.zero_add,qD (by omega),zM,yO h1,zC];exact⟨x,j,rfl,h1,by simpa using d⟩
def farN (b:Book)(a:Int)(n:Str):Bool:=b.Sources.any λs=>decide (s.Track=n)&&farS a s
theorem far_swap (b:Book) (names:List Str) (a:Int):names.any (farN b a)=aKb b names a:=by
 rw [Bool.eq_iff_iff,List.any_eq_true];unfold aKb farN inN;rw [List.any_eq_true];constructor;rintro⟨n,d,h⟩;obtain⟨s,f,h⟩:=List.any_eq_true.1 h;rw [Bool.and_eq_true,decide_eq_true_eq]at h;exact⟨s,f,by rw [Bool.and_eq_true];exact⟨List.any_eq_true.2 ⟨n,d,dT h.1.symm⟩,h.2⟩⟩;rintro⟨s,f,h⟩;rw [Bool.and_eq_true]at h;obtain⟨n,d,e⟩:=List.any_eq_true.1 h.1;rw [decide_eq_true_eq]at e;exact⟨n,d,List.any_eq_true.2 ⟨s,f,by rw [Bool.and_eq_true,decide_eq_true_eq];exact⟨e.symm,h.2⟩⟩⟩
theorem aKv {b:Book}(k:aQ b){i j:Nat}{s t:fD}(hi:b.Sources[i]? =some s)(d:b.Sources[j]? =some t)(h:s.Track=t.Track):s=t:=by
 have f: ∀{i j:Nat}{s t:fD},b.Sources[i]? =some s->b.Sources[j]? =some t->s.Track=t.Track-> ¬i<j:=by
  intro i j s t hi d h _;have g:=k.src j t d;unfold aDe at g;split at g
  ·cases g
  split at g
  ·cases g
  rename_i c;refine c (List.any_eq_true.2 ⟨s,?_,dT h⟩);rw [List.mem_iff_getElem];obtain⟨_,m⟩:=gS.1 hi;exact⟨i,by rw [List.length_take];have:=(gS.1 d).1;omega,by rw [List.getElem_take];exact m⟩
 have h1:=f hi d h;have o:=f d hi h.symm;have:i=j:=by omega
 subst this;rw [hi]at d;exact oI d
theorem aWu {b:Book}(d:aQ b){i:Nat}{s:fD}(hi:b.Sources[i]? =some s):0<=s.Long/\s.Long<=1099511627776:=by
 have h:=d.src i s hi;unfold aDe at h;split at h;cases h;split at h;cases h;split at h;cases h;split at h;cases h;split at h;rename_i c;exact absurd h c;split at h;cases h;rename_i c3;exact pF.1 (by simpa using c3)
theorem reach_eq {b:Book}(d:aQ b){i:Nat}{s:fD}(hi:b.Sources[i]? =some s){a c:Int}(a0:0<=a)(f:a<=4194303)(c0:0<=c)(c1:c<=4194303):Fbs s a c=some (sQ s a,64*c+63):=by
 obtain⟨h1,_⟩:=aWu d hi;unfold Fbs sQ;simp only [zD];rw [Go.OB.wrap_i64 (n:=64*a) (by omega) (by omega),Go.OB.wrap_i64 (n:=64*a-s.Long) (by omega) (by omega),Go.OB.wrap_i64 (n:=64*a-s.Long+64) (by omega) (by omega),Go.OB.wrap_i64 (n:=64*a-s.Long+64-1) (by omega) (by omega),Go.OB.wrap_i64 (n:=64*c) (by omega) (by omega),Go.OB.wrap_i64 (n:=64*c+64) (by omega) (by omega),Go.OB.wrap_i64 (n:=64*c+64-1) (by omega) (by omega)];rw [show 64*a-s.Long+64-1=64*a-s.Long+63 by omega,show 64*c+64-1=64*c+63 by omega]
theorem lowM_r {b:Book}(d:aQ b){i:Nat}{s:fD}(hi:b.Sources[i]? =some s){a:Int}(a0:0<=a):0<=sQ s a/\sQ s a<=64*a+63:=by
 obtain⟨h1,_⟩:=aWu d hi;unfold sQ;omega
theorem reach_ok {b:Book} (l:aQ b) {names:List Str} (m:names.length<=9223372036854775807) (a c:Int):Fca b names a c=some (if aJz b names=true then 4 else if aGu a c=true then 9 else if 2000<c-a+1 then 3 else if aKb b names a=true then 3 else 0):=by
 have x:=l.sn;have f:b.Sources.length<=9223372036854775807:=by omega
 unfold Fca;rw [yH,zD];unfold Fhs;rw [aOi names (λn=> !(b.Sources.any λs=>decide (s.Track=n))) (some 4) (some (if aGu a c=true then 9 else if 2000<c-a+1 then 3 else if aKb b names a=true then 3 else 0)) m]
 ·unfold aJz
  cases names.any λn=> !(b.Sources.any λs=>decide (s.Track=n))<;>rfl
 ·intro k i n h1 g;simp only [zD,yD g,zT,yO h1,zC,fJ g m];rcases aDf f n with ⟨s,j,e,d,o⟩|⟨e,h⟩
  ·have:(b.Sources.any λs=>decide (s.Track=n))=true:=List.any_eq_true.2 ⟨s,qS d,dT o⟩;rw [e,zC,this]
  ·have:(b.Sources.any λs=>decide (s.Track=n))=false:=by
    rw [List.any_eq_false];intro s p;rw [decide_eq_true_eq];exact h s p
   rw [e,zC,this]
 ·intro u k;simp only [zD,yE,zM,xM,zC,yH];have y:decide (4194304<=c)=decide (4194303<c):=decide_eq_decide.2 (by omega);rw [y]
  by_cases r:aGu a c=true
  ·rw [if_pos r];unfold aGu at r;rw [r,zT]
  ·rw [if_neg r];rw [Bool.not_eq_true]at r;unfold aGu at r;rw [r,zM];simp only [Bool.or_eq_false_iff,decide_eq_false_iff_not]at r;rw [Go.OB.wrap_i64 (n:=c-a) (by omega) (by omega),Go.OB.wrap_i64 (n:=c-a+1) (by omega) (by omega)]
   by_cases c2:2000<c-a+1
   ·rw [dT c2,zT,if_pos c2]
   ·rw [qD c2,zM,if_neg c2];unfold Fif;rw [jL names (farN b a) (some 3) (some 0) m]
    ·rw [far_swap]
     cases aKb b names a<;>rfl
    ·intro k i n h1 g;simp only [zD,yD g,zT,yO h1,zC,fJ g m];rcases aDf f n with ⟨s,j,e,d,o⟩|⟨e,h⟩
     ·have z:=lowM_r l d (a:=a) (by omega);have A:farN b a n=farS a s:=by
       rw [Bool.eq_iff_iff];unfold farN;rw [List.any_eq_true];constructor
       ·rintro⟨_,v,h⟩;rw [Bool.and_eq_true,decide_eq_true_eq]at h;obtain⟨_,B,rfl⟩:=List.mem_iff_getElem.1 v;rw [aKv l d (gE B) (o.trans h.1.symm)];exact h.2
       ·intro h;exact⟨s,qS d,by rw [Bool.and_eq_true,decide_eq_true_eq];exact⟨o,h⟩⟩
      rw [e,zC,reach_eq l d (by omega) (by omega) (by omega) (by omega),zC,Go.OB.wrap_i64 (n:=64*a) (by omega) (by omega),Go.OB.wrap_i64 (n:=64*a-sQ s a) (by omega) (by omega),A];rfl
     ·have w:=(List.any_eq_false.1 u) n (qS h1);have:(b.Sources.any λs=>decide (s.Track=n))=false:=by
       rw [List.any_eq_false];intro s p;rw [decide_eq_true_eq];exact h s p
      rw [this]at w;exact absurd rfl w
    ·intro k;simp only [zD,yE,zM]
end Go.Lf
