/- Laws that the claim stands on; no condition beyond those stated. -/
import Derived.Shelf.SlSortCmp.QuietGrown
import Derived.Test.YtbjofgmdhbiekaaGreatDoorLfS
import Derived.Sort.OwnSorted
import Derived.Shelf.SlSortCmp.NoneTotal
namespace Go
open Go.Sort
section
variable {P:Program}{ops:Array Oper}{md:Region.Mode}{C:World->Prop}{L:Array Bool}{T:Nat->Act->Prop}
def wpTo (P:Program)(md:Region.Mode)(ops:Array Oper)(C:World->Prop)(L:Array Bool)(T:Nat->Act->Prop):Nat->Array Bool->Act->Prop
 |0,b,a=>b=L/\T 0 a
 |c+1,b,a=>(b=L->T (c+1) a)/\(b≠L->Region.ready md ops b≠[]/\ ∀i∈Region.ready md ops b,qOp P ops C i (wpTo P md ops C L T c (b.setIfInBounds i true)) a)
theorem aRs {Q':Exit->Act->World->Prop} (f: ∀c a w,C w->T c a->wpAny P md ops Q' c L a w): ∀(c:Nat) (b:Array Bool) (a:Act) (w:World),C w->wpTo P md ops C L T c b a->wpAny P md ops Q' c b a w
 |0,_,_,_,d,h=>by obtain⟨rfl,h⟩:=h;exact f 0 _ _ d h
 |c+1,b,_,_,d,h=>by
  by_cases e:b=L
  ·subst e;exact f _ _ _ d (h.1 rfl)
  ·have h:=h.2 e;exact⟨λj=>absurd j h.1,λi hi=>wpOp_of_qOp d (λm w' g=>aRs f c _ m w' g) (h.2 i hi)⟩
def toOk (md:Region.Mode)(ops:Array Oper)(L:Array Bool):Bool:=(List.range ops.size).all λi=> !L.getD i false||((List.range ops.size).any λk=>k !=i&&L.getD k false&&match ops[k]? with |some o=>o.after.any λe=>Region.binds md e&&e.on==i|none=>false)||(Region.ready md ops (L.setIfInBounds i false)).all λj=>L.getD j false
def aRq (md:Region.Mode)(ops:Array Oper)(a:Array Bool):Prop:= ∀(k:Nat) (o:Oper),ops[k]? =some o->a.getD k false=true-> ∀e∈o.after,Region.binds md e=true->a.getD e.on false=true
theorem aNg {a:Array Bool}{j:Nat}{f:Oper} (h:aRq md ops a) (p:ops[j]? =some f) (b: ∀e∈f.after,Region.binds md e=true->a.getD e.on false=true):aRq md ops (a.setIfInBounds j true):=by
 have up: ∀k,a.getD k false=true->(a.setIfInBounds j true).getD k false=true:=λk hk=>by
  by_cases e:j=k
  ·subst e;rcases Nat.lt_or_ge j a.size with d|d
   ·simp [d]
   ·simp [Array.getElem?_eq_none d]at hk
  ·rw [getD_set_ne false e];exact hk
 intro k o hk g e m n
 by_cases c:j=k
 ·subst c;rw [p]at hk;obtain rfl:=oI hk;exact up _ (b e m n)
 ·rw [getD_set_ne false c]at g;exact up _ (h k o hk g e m n)
theorem aWm {i:Nat}{G:Oper}{v:Value} (hi:ops[i]? =some G) (r:L.getD i false=true) (ad:toOk md ops L=true) (y: ∀(j:Nat) (o:Oper) cs b,ops[j]? =some o->o.op≠ .select cs b):
  ∀(g:Nat) (c:Array Bool) (a:Act),aRq md ops c->
   (∀j E,ops[j]? =some E->j≠i->c.getD j true=false->(∀e∈E.after,Region.binds md e=true->e.on≠i)->G.apart ops E=true)->
   i∈Region.ready md ops c->YieldsIn P ops C G v a->
   wpTo P md ops C L T g (c.setIfInBounds i true) (a.put G.dst v)->wpTo P md ops C L T (g+1) c a:=by
 have J: ∀c:Array Bool,i∈Region.ready md ops c->c≠L:=λc m e=>by
  have:=(mem_ready.1 m).1;subst e;rcases Nat.lt_or_ge i c.size with n|n
  ·simp [n]at this r;rw [this]at r;cases r
  ·simp [Array.getElem?_eq_none n]at r
 have s: ∀(c:Array Bool) (j:Nat),aRq md ops c->i∈Region.ready md ops c->j∈Region.ready md ops c->j≠i->c.setIfInBounds i true≠L:=λc j q m z f e=>by
  have A:=(mem_ready.1 m).1;have K:i<c.size:=by
   rcases Nat.lt_or_ge i c.size with n|n
   ·exact n
   ·simp [Array.getElem?_eq_none n]at A
  have e2:L.setIfInBounds i false=c:=by
   rw [<-e];refine Array.ext (by simp) λk h1 h2=>?_
   simp only [Array.setIfInBounds_setIfInBounds]
   by_cases hk:i=k
   ·subst hk;rw [Array.getElem_setIfInBounds_self];simp [K]at A;exact A.symm
   ·rw [Array.getElem_setIfInBounds_ne h2 hk]
  have I:=ad;unfold toOk at I;rw [List.all_eq_true]at I;have p:=I i (List.mem_range.2 (Array.getElem?_eq_some_iff.1 hi).1);rw [r,Bool.not_true,Bool.false_or,e2,Bool.or_eq_true]at p;rcases p with p|p
  ·rw [List.any_eq_true]at p;obtain⟨k,-,p⟩:=p;simp only [Bool.and_eq_true,bne_iff_ne,ne_eq]at p;obtain⟨⟨F,M⟩,p⟩:=p;split at p
   ·rename_i o ho;obtain⟨d,hd,N⟩:=Array.any_eq_true'.1 p;simp only [Bool.and_eq_true,beq_iff_eq]at N;rw [<-e,getD_set_ne false (Ne.symm F)]at M;have:=q k o ho M d hd N.1;rw [N.2]at this;simp [K]at A this;rw [A]at this;cases this
   ·cases p
  rw [List.all_eq_true]at p;have h5:=p j z;have h6:=(mem_ready.1 z).1;rw [<-e]at h5;rcases Nat.lt_or_ge j c.size with n|n
  ·simp [n,Ne.symm f]at h5 h6;rw [h6]at h5;cases h5
  ·simp [Array.getElem?_eq_none n]at h6
 intro g
 induction g with
 |zero=>
  intro c a q _ m hy H;refine⟨λh=>absurd h (J _ m),λ_=>⟨λh=>(by rw [h]at m;cases m),λj z=>?_⟩⟩
  by_cases f:j=i
  ·subst f;exact hy.qOp hi H
  ·exact absurd H.1 (s _ _ q m z f)
 |succ g ih=>
  intro c a q t m hy H;refine⟨λh=>absurd h (J _ m),λ_=>⟨λh=>(by rw [h]at m;cases m),λj z=>?_⟩⟩
  by_cases f:j=i
  ·subst f;exact hy.qOp hi H
  ·have h1:=(H.2 (s _ _ q m z f)).2 j (ready_mono z f);obtain⟨B,E,u,D⟩:=mem_ready.1 z;have Q: ∀e∈E.after,Region.binds md e=true->e.on≠i:=λe he N ag=>by
    have h1:=D e he N;have A:=(mem_ready.1 m).1;rw [ag]at h1;rcases Nat.lt_or_ge i c.size with n|n
    ·simp [n]at A h1;rw [A]at h1;cases h1
    ·simp [Array.getElem?_eq_none n]at h1
   have h2:=qOp_put u (t j E u f B Q) (λcs b=>y i G cs b hi) (λcs b=>y j E cs b u) hy h1;have x: ∀k X,ops[k]? =some X->k≠i->(c.setIfInBounds j true).getD k true=false->
     (∀e∈X.after,Region.binds md e=true->e.on≠i)->G.apart ops X=true:=λk X hk F Y ah=>by
    refine t k X hk F ?_ ah
    by_cases aa:j=k
    ·subst aa;exact B
    ·rw [getD_set_ne true aa]at Y;exact Y
   refine qOp_mono (λa' I=>ih (c.setIfInBounds j true) a' (aNg q u D) x (ready_mono m (Ne.symm f)) I.1 ?_) h2;rw [Array.setIfInBounds_comm _ _ f];exact I.2
def aRx (md:Region.Mode)(ops:Array Oper)(L:Array Bool):Nat->Nat->Array Bool->Bool
 |0,_,a=>a==L
 |n+1,k,a=>(Region.ready md ops a).contains k&&Region.free md ops a k&&L.getD k false&&aRx md ops L n (k+1) (a.setIfInBounds k true)
theorem aUa (t:Region.noSelect ops=true)(g:toOk md ops L=true)(c:Nat): ∀(l:List Oper) (k:Nat) (b:Array Bool) (a:Act),aRq md ops b->(∀j,j<l.length->l[j]? =ops[k+j]?)->
  aRx md ops L l.length k b=true->wpQuiet P ops C (T c) l a->wpTo P md ops C L T (l.length+c) b a
 | [],_,b,a,_,_,d,h=>by
  have d:b=L:=by simpa [aRx]using d
  subst d;rw [List.length_nil,Nat.zero_add]
  cases c with
  |zero=>exact⟨rfl,h⟩
  |succ _=>exact⟨λ_=>h,λy=>absurd rfl y⟩
 |o::l,k,b,a,m,u,d,h=>by
  have f:ops[k]? =some o:=by simpa using(u 0 (by simp)).symm
  simp only [List.length_cons,aRx,Bool.and_eq_true]at d;obtain⟨⟨⟨x,z⟩,A⟩,r⟩:=d;have s:qOp P ops C k (wpQuiet P ops C (T c) l) a:=by unfold qOp;simp only [f];exact h
  obtain⟨v,B,D⟩:=yieldsIn_of_qOp f s;obtain⟨-,_,p,q⟩:=mem_ready.1 (by simpa using x:k∈Region.ready md ops b);rw [f]at p;obtain rfl:=oI p;rw [List.length_cons,show l.length+1+c=l.length+c+1 by omega];exact aWm f A g (Region.noSelect_spec t) _ b a m (Region.free_spec f z) (by simpa using x) B
   (aUa t g c l (k+1) _ _ (aNg m f q) (λj E=>by have:=u (j+1) (by simpa using E);simpa [Nat.add_assoc,Nat.add_comm 1 j]using this) r D)
theorem aQc {id:Nat}{Q:Exit->Act->World->Prop}{a:Act}{w:World}{l:List Oper}(m:Nat)(L:Array Bool)(hm:P.follows .mixedOrders=true)(q:Region.noSelect l.toArray=true)(d:toOk .any l.toArray L=true)(c:(l.take m).length+(l.length-m)=l.length)
  (r:aRx .any l.toArray L (l.take m).length 0 (Array.replicate l.length false)=true)
  (h:wpQuiet P l.toArray (λw'=> ∃p:GrownBy,w'=grow (w.drewN p.n) p.os) (λf=> ∀w',(∃p:GrownBy,w'=grow (w.drewN p.n) p.os)->wpAny P .any l.toArray Q (l.length-m) L f w') (l.take m) a):(Code.region id l.toArray true).wp P Q a w:=by
 refine wp_region_any hm ?_;have h1:=aUa (P:=P) (md:= .any) (C:=λw'=> ∃p:GrownBy,w'=grow (w.drewN p.n) p.os) (T:=λb f=> ∀w',(∃p:GrownBy,w'=grow (w.drewN p.n) p.os)->wpAny P .any l.toArray Q b L f w') q d (l.length-m) (l.take m) 0 (Array.replicate l.length false) a (λk _ hk g=>by rw [Array.getD_eq_getD_getElem?,Array.getElem?_replicate]at g;split at g<;>cases g) (λ_ s=>by
  rw [List.getElem?_toArray,Nat.zero_add,List.getElem?_take_of_lt (by rw [List.length_take]at s;omega)]) r h
 rw [c]at h1;have t:=aRs (Q':=Q) (λb a w u x=>x w u) l.length _ a {w with drawn:=w.drawn+1} ⟨⟨1,#[]⟩,by rw [grow_empty];rfl⟩ h1;simpa using t
end
end Go
namespace Go.Lf
open Go.RowKit Go.OB Go.Sort Go.Shelf Go.Proofs
theorem aBg {α:Type}{enc:α->List Value}{k:Nat}(hk: ∀x,(enc x).length=k): ∀l:List α,(l.flatMap enc).length=l.length*k
 | []=>by simp
 |x::l=>by rw [List.flatMap_cons,List.length_append,hk,aBg hk l,List.length_cons,Nat.add_mul,Nat.one_mul,Nat.add_comm]
section
variable {α:Type} [Inhabited α] {enc:α->List Value}{k:Nat}
theorem aYr (hk: ∀x,(enc x).length=k): ∀(l:List α) (t:Nat),t<l.length*k->(l.flatMap enc)[t]? =(enc l[t/k]!)[t%k]?
 | [],t,h=>by simp at h
 |x::l,t,h=>by
  rw [List.flatMap_cons];have b:0<k:=by
   rcases Nat.eq_zero_or_pos k with a|a
   ·subst a;simp at h
   ·exact a
  by_cases c:t<k
  ·rw [List.getElem?_append_left (by rw [hk];exact c),Nat.div_eq_of_lt c,Nat.mod_eq_of_lt c];rfl
  ·obtain⟨u,rfl⟩: ∃u,t=u+k:=⟨t-k,by omega⟩;rw [List.length_cons,Nat.add_mul,Nat.one_mul]at h;rw [List.getElem?_append_right (by rw [hk];omega),hk,Nat.add_sub_cancel,Nat.add_div_right _ b,Nat.add_mod_right,aYr hk l u (by omega)];rfl
theorem aLa (hk: ∀x,(enc x).length=k)(l:List α):flatK enc k l.toArray=(l.flatMap enc).toArray:=by
 refine ext_get! (by rw [size_flatK,List.size_toArray,List.size_toArray,aBg hk]) λt a=>?_
 rw [size_flatK,List.size_toArray]at a;rw [get_flatK _ _ _ _ (by rw [List.size_toArray];exact a)];have h:=aYr hk l t a;have d:0<k:=by
  rcases Nat.eq_zero_or_pos k with b|b
  ·subst b;simp at a
  ·exact b
 have hm:t%k<(enc l[t/k]!).length:=by rw [hk];exact Nat.mod_lt _ d
 have c:t<(l.flatMap enc).length:=by rw [aBg hk];exact a
 rw [gE hm,gE c]at h;have h:=oI h;have f:l.toArray[t/k]! =l[t/k]! :=by simp
 have g:(l.flatMap enc).toArray[t]! =(l.flatMap enc)[t]:=by rw [getElem!_pos _ t (by simpa using c)];simp
 have j:(enc l[t/k]!)[t%k]! =(enc l[t/k]!)[t%k]:=getElem!_pos (enc l[t/k]!) (t%k) hm;rw [f,g,j];exact h.symm
end
theorem holdsV {w:World}{g:Nat}{a:Array Value}{e:TypeId}{L:List Value}(c:w.heap[g]? =some (.cells a e (0,0)))(d:a.toList.take L.length=L):Holds id w g 0 L.toArray:=by
 intro j f;have b:j<L.length:=by simpa using f
 refine⟨?_,by simp [World.frozen?,c]⟩;have h1:(a.toList.take L.length)[j]? =L[j]? :=by rw [d]
 rw [List.getElem?_take_of_lt b]at h1;simp only [World.cell?,c,Nat.zero_add];simp only [Option.isSome_none,Bool.false_eq_true,if_false];rw [<-Array.getElem?_toList,h1];simp [b]
theorem aPq {w:World}{g n:Nat}{os:Array Obj}{a:Array Value}{e:TypeId}{b:Nat×Nat}(d:Array Value)(c:w.heap[g]? =some (.cells a e b)):
    (grow (putRow id (Sort.ahead w n) g 0 d) os).heap[g]? =some (.cells (putCells id 0 d a) e b):=by
 have f:g<w.heap.size:=(Array.getElem?_eq_some_iff.1 c).1;rw [heap_grow_old _ _ (by simpa using f)];simp [putRow,mapBlock,Sort.ahead,Array.getElem?_modify,c,onCells]
theorem grownByV {w:World}{g n:Nat}{os:Array Obj}(d:Array Value):w.grownBy (grow (putRow id (Sort.ahead w n) g 0 d) os) (some g):=by
 refine⟨rfl,rfl,rfl,by simp,λk hk a=>?_⟩;rw [heap_grow_old _ _ (by simpa using hk)];have:g≠k:=λe=>a (by rw [e]);simp [putRow,mapBlock,Sort.ahead,Array.getElem?_modify,this]
theorem aKf (a:Array Value) (L:List Value) (h:L.length<=a.size):(putCells id 0 L.toArray a).toList.take L.length=L:=by
 apply List.ext_getElem?;intro j;by_cases b:j<L.length;rw [List.getElem?_take_of_lt b,Array.getElem?_toList];simp [putCells,b,show j<a.size by omega];rw [List.getElem?_take_eq_none (by omega),List.getElem?_eq_none (by omega)]
section
variable {α:Type} [Inhabited α] {enc:α->List Value}{k:Nat}{P:Program}{ρ:Ren}{O S:List Nat}{w0 w:World}{l:List Th}{i e:Nat}{v:Value}{xl:List α}{R:Rp α}
theorem sortK_own (hk: ∀x,(enc x).length=k) (h1: ∀x,∀v∈enc x,v.oneCell'=true) (N: ∀(F:Nat->Prop) (w:World) (cs:List Value) (l:List α),rows R F w cs l↔cs=l.flatMap enc) (D:R.sz=k) (L:SlLaysF0.n6 P ρ)
  (aE: ∀w,(isAgg (ρ.t 24)).run P w= .ok true w) (zE: ∀w,(Go.sizeOf (ρ.t 24)).run P w= .ok k w) (a:α->α->Int) (hO:SWO (ltOf a)) (hT: ∀x y,(ltOf a) x y=false->(ltOf a) y x=false->x=y) (c:Nat)
  (eg: ∀args w,(callFunc c args).run P w= .ok (.enter c args) w) (hc: ∀(x y:α) (W:World),Calls P c #[.agg (enc x).toArray,.agg (enc y).toArray] W λe w'=>e= .returned (.int .i64 (a x y))/\ ∃q E,w'=grow (W.drewN q) E)
  (H:Hd O w0 w S l) (hi:l[i]? =some (.own R v e xl)) (hn:xl.length<4611686018427387904):
  Calls P (ρ.f 6) #[v,.func (.func c) #[] #[]] w λr w'=>r= .returned (.tuple #[])/\Hd O w0 w' S (l.set i (.own R v e (xl.mergeSort λx y=> !(ltOf a) y x))):=by
 obtain⟨_,G,r2⟩:=H.V hi;have G:=(N _ _ _ _).1 G;subst G;subst D;have d:(xl.mergeSort λx y=> !(ltOf a) y x).length=xl.length:=List.length_mergeSort _;rcases r2.2 with ⟨rfl,h0⟩|⟨g,cap,s,rfl,_,o,u,I,z,p⟩
 ·have hx:xl=[]:=List.eq_nil_of_length_eq_zero h0;subst hx;refine(AnyF.slices_SortFunc_none (P:=P) (ρ:=ρ) L none 0 (.func (.func c) #[] #[]) w).mono λr w' ⟨h1,J⟩=>⟨h1,?_⟩
  subst J;have e1:([]:List α).mergeSort (λx y=> !(ltOf a) y x)=[]:=List.eq_nil_of_length_eq_zero d;have e2:l.set i (.own R (.slice none 0 0) e [])=l:=by
   apply List.ext_getElem?;intro j;rw [List.getElem?_set]
   by_cases Q:i=j
   ·subst Q;rw [if_pos rfl,if_pos (gS.1 hi).1];exact hi.symm
   ·rw [if_neg Q]
  rw [e1,e2];exact H
 ·have K:=aBg hk xl;have hH:HoldsK enc R.sz w g 0 xl.toArray:=by
   unfold HoldsK;rw [aLa hk];exact holdsV o (by rw [K];exact p)
  have q:=AnyQ.slices_SortFunc_total L R.sz aE zE enc hk h1 a hO c #[] g 0 cap xl.toArray w eg (λ_ os _ _ x y=>hc x y _) hH (Array.getElem?_eq_some_iff.1 o).1 (by simpa using hn) hT;refine q.mono λr w' ⟨h1,n,os,J⟩=>⟨h1,?_⟩
  subst J;unfold sortWorldK putRowK;rw [aLa hk];have A:((xl.mergeSort λx y=> !(ltOf a) y x).flatMap enc).length=xl.length*R.sz:=by rw [aBg hk,d]
  have am:xl.length*R.sz<=s.size:=by rw [z];exact Nat.mul_le_mul_right _ u
  have B:=grownByV (w:=w) (g:=g) (n:=n) (os:=os) ((xl.mergeSort λx y=> !(ltOf a) y x).flatMap enc).toArray;have X:(grow (putRow id (Sort.ahead w n) g 0 ((xl.mergeSort λx y=> !(ltOf a) y x).flatMap enc).toArray) os).ownsRow 0 e R.sz (.slice (some ⟨g,0,none⟩) xl.length cap) xl.length ((xl.mergeSort λx y=> !(ltOf a) y x).flatMap enc):=
   ⟨by rw [A],.inr ⟨g,cap,_,rfl,Nat.zero_le _,aPq _ o,u,I,by simp [putCells,z],by rw [<-A];exact aKf s _ (by omega)⟩⟩
  refine H.turn hi ⟨B.os,B.tape,B.output,B.size,λk hk M=>B.block k hk (λh=>M ?_)⟩ (λ_=>⟨_,(N _ _ _ _).2 rfl,?_⟩) ?_ (aHa _)
  ·simp [Th.blocks,ob,nY]at h⊢;exact h
  ·rw [d];exact X
  ·intro b Y;exact⟨.inl Y,by have:=xY X b Y;exact this.2⟩
end
end Go.Lf
