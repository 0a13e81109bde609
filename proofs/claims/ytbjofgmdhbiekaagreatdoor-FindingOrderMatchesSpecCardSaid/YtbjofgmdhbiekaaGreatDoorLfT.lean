/- Laws that the claim stands on; no condition beyond those stated. -/
import Derived.Maps.RangeRun
import Derived.Test.YtbjofgmdhbiekaaGreatDoorXVp
namespace Go.Lf
open Go.RowKit Go.OB
section ff
variable {α β:Type}
end ff
section hd
variable {P:Program}{ρ:Env}{w w0 w1 w':World}{d:Option Tmp}{x y z:Operand}{t u ty e:TypeId}{pos:String}{af:Array Edge}{g:Option (Nat×Bool)}
variable {v:Value}{b o i n c s m:Nat}{k k':IntKind}{cs xs vs:List Value}{bs:List Nat}{T:TypeId}{O O' S M:List Nat}{l l2:List Th}{α β:Type}{r:Rp α}{R:Rt α}{D:Hol}{xl yl zl:List α}{a:α}{j q:Int}{F:Nat->Prop}
end hd
section ops
variable {P:Program}{ρ:Env}{w w0 w1 w':World}{d:Option Tmp}{x y z:Operand}{t u ty e:TypeId}{pos:String}{af:Array Edge}{g:Option (Nat×Bool)}
variable {v:Value}{b o i n c s m:Nat}{k k':IntKind}{cs xs vs:List Value}{bs:List Nat}{T:TypeId}{O O' S M:List Nat}{l l2:List Th}{α β:Type}{r:Rp α}{R:Rt α}{D:Hol}{xl yl zl:List α}{a:α}{j q:Int}{F:Nat->Prop}
theorem aTc {pre cs vs:List Value}{k i:Nat}(f:pre.length=k):splice (pre++cs) (0+k+i) vs=pre++splice cs i vs:=by
 subst f;unfold splice;rw [Nat.zero_add,List.take_append,List.take_of_length_le (by omega),show pre.length+i-pre.length=i by omega,List.drop_append,List.drop_eq_nil_of_le (by omega),List.nil_append,show pre.length+i+vs.length-pre.length=i+vs.length by omega];simp
theorem qU: ∀{l:List Value},(∀v∈l,v.oneCell'=true)->aDq l
 | [],_=>trivial
 |v::l,h=>⟨h v (by simp),qU λu f=>h u (by simp [f])⟩
theorem kD: ∀{l m:List Value},aDq l->aDq m->aDq (l++m)
 | [],_,_,h=>h
 |_::_,_,h,k=>⟨h.1,kD h.2 k⟩
end ops
def aCw {κ ν:Type} [DecidableEq κ] (l:List (κ×ν))(k:κ):Bool:=l.any λp=>decide (p.1=k)
end Go.Lf
namespace Go.MxM
open Go.OB Go.RowKit
theorem XL_effCA {P:Program}{I:World->Prop}{N:Nat}{ops:Array Oper}{κ:List Kd}{K:Mm->Env->World->Prop}{k:Nat}{M:Mm}{σ:List Nat}{rest:List Oper}{ρ:Env}{w:World}{d:Nat}{op:Op}{ty:TypeId}{pos:String}{af:Array Edge}{g:Option (Nat×Bool)}{f:FuncId}{args:Array Value}{R:World->Ending->World->Prop}(Q: ∀w w',I w->fJ w w'->I w')(X:kdOf κ k= .eff)(Y:fM N ops ρ ⟨some d,op,ty,pos,af,g⟩=true)(hd:Nat.blt d N=true)(h: ∀w',fJ w w'->DoC P ⟨some d,op,ty,pos,af,g⟩ ρ w' f args)
    (hc: ∀w',fJ w w'->Calls P f args w' (R w'))(n: ∀w' e p,fJ w w'->R w' e p-> ∃v,e= .returned v/\I p/\XL P I N ops κ K (some λx=>x<p.heap.size) σ rest (upd ρ d v) p):XL P I N ops κ K M (k::σ) (⟨some d,op,ty,pos,af,g⟩::rest) ρ w:=by
 intro J w' B _ a E;simp only [bW];unfold xOp;simp only [XL.head J,X];refine .inl ⟨by rw [E.wanted];exact Y,.inr (.inr ⟨f,args,by rw [E.eval];exact h w' B,(hc w' B).mono λe p hR=>?_⟩)⟩;obtain⟨v,he,L,H⟩:=n w' e p B hR;exact⟨v,he,L,_,λ_ e x H=>by cases e;exact H,λw3 C=>H (XL.tail J) w3 C (Q _ _ L C) _ (E.put (wE hd) v)⟩
end Go.MxM
namespace Go.Lf
open Go.RowKit Go.OB
theorem Hd.alloc_ruleA {P:Program}{N:Nat}{ops:Array Oper}{κ:List MxM.Kd}{K:MxM.Mm->Env->World->Prop}{k:Nat}{σ:List Nat}{rest:List Oper}{ρ:Env}{w w0:World}{d:Nat}{ty t:TypeId}{pos:String}{af:Array Edge}{g:Option (Nat×Bool)}{O S:List Nat}{l:List Th}{cs:List Value}{B:Nat} (H:Hd O w0 w S l) (C:MxM.kdOf κ k= .mk B) (E:fM N ops ρ ⟨some d,.alloc t,ty,pos,af,g⟩=true) (hd:Nat.blt d N=true) (f:OB.Zero P t cs)
  (n: ∀M b w',Hd O w0 w' S (l++[.blk b cs t])->MxM.XL P (λw'=>Only S w0 w') N ops κ K M σ rest (upd ρ d (.pointer (some ⟨b,0,none⟩))) w'):
  MxM.XL P (λw'=>Only S w0 w') N ops κ K (some λx=>x<w.heap.size) (k::σ) (⟨some d,.alloc t,ty,pos,af,g⟩::rest) ρ w:=by
 refine MxM.XL_mk (m:= .ptr) (cs:=cs) (T:=t) (λ_ _=>oS _ _) C E hd (λw' _=>?_) λb w' I _ J A=>n _ b w' (H.add (Only.of_below I) (λ_=>A) (λL h=>?_) (by simp [Th.blocks]))
 ·unfold OB.Zero at f
  cases hi:P.info? t with
  |none=>rw [hi]at f;cases f
  |some p=>
   rw [hi]at f
   cases hzz:p.zero with
   |none=>simp [hzz]at f
   |some _=>
    simp [hzz]at f;unfold Do;simp [execOp,Instr.alloc,zeroValue,typeInfo,hi,hzz,newVar,newRow,newObj,Sem.run,<-f,MxM.Mk.val]
 ·have:L=b:=by simpa [Th.blocks]using h
  subst this;exact⟨Nat.le_of_not_lt J,(Array.getElem?_eq_some_iff.1 A).1⟩
section
variable {P:Program}{ρ:Env}{w:World}{d:Option Tmp}{x y z:Operand}{t u tz ty:TypeId}{pos:String}{af:Array Edge}{g:Option (Nat×Bool)}{k:IntKind}{a b c:Int}
theorem Do_min3 {r:Int}(f:ev ρ x= .int k a)(p:ev ρ y= .int k b)(A:ev ρ z= .int k c)(h:min (min a b) c=r):Do P ⟨d,.call {callee:= .builtin .min,args:= #[x,y,z],argTypes:= #[t,u,tz]},ty,pos,af,g⟩ ρ w (.int k r) w:=by
 subst h;have B:min a b=if b<a then b else a:=by split<;>omega
 have C: ∀m:Int,min m c=if c<m then c else m:=λm=>by split<;>omega
 unfold Do;simp [execOp,resolve,invoke,builtin,Builtin.min_,Builtin.min2,f,p,A,B,C]
end
theorem aQr {α:Type}(a:Arr 3 α): ∃x y z,∃h:[x,y,z].length=3,a=⟨[x,y,z],h⟩:=by
 obtain⟨l,h⟩:=a
 match l,h with
 | [x,y,z],h=>exact⟨x,y,z,h,rfl⟩
def plainCell:Value->Bool
 | .int _ _=>true
 | .bool _=>true
 | .string _=>true
 |_=>false
theorem sb_of {l:List Value}(h:l.all plainCell=true): ∀c∈l,Instr.sameBits 9999 c c=true:=by
 intro c f;have:=List.all_eq_true.1 h c f
 cases c<;>first |(simp [plainCell]at this;done)|simp [Instr.sameBits,MapKept.bytes_beq]
structure WK (P:Program)(kt:TypeId){κ:Type} [DecidableEq κ] (e:Fl κ):Prop where
 nn: ∃d,P.underlying kt=some d/\ ∀x y,Instr.sameNow d x y=none
 chk: ∀(b:Bool) (a:κ) (w:World),(Instr.checkKey b 10000 kt (.agg (e.f a).toArray)).run P w= .ok () w
 eq: ∃k,k<=10000/\EqF P kt e k
 ho:Agg P kt
 hs:Sz P kt e.sz
 sb: ∀a,∀c∈e.f a,Instr.sameBits 9999 c c=true
def eY {κ ν:Type}(e:Fl κ)(G:ν->Value)(l:List (κ×ν)):List (Value×Value):=l.map λp=>(.agg (e.f p.1).toArray,G p.2)
section
variable {P:Program}{kt:TypeId}{κ ν:Type} [DecidableEq κ] {e:Fl κ}{w:World}
theorem WK.equal (K:WK P kt e)(a b:κ)(w:World):(Op.equal kt (.agg (e.f a).toArray) (.agg (e.f b).toArray)).run P w= .ok (decide (a=b)) w:=by
 obtain⟨k,B,C⟩:=K.eq;obtain⟨_,_,h,p,A⟩:=C (10000-k) (e.f a).toArray (e.f b).toArray 0 a b w (by simp [List.take_of_length_le,e.len]) (by simp [List.take_of_length_le,e.len]);rw [wS K.ho K.hs]at h p;simp only [List.drop_zero,List.take_of_length_le (Nat.le_of_eq (e.len a)),List.take_of_length_le (Nat.le_of_eq (e.len b))]at h p;cases h;cases p;rw [Nat.sub_add_cancel B]at A;exact A
theorem WK.stays (K:WK P kt e)(a:κ)(w:World):(Instr.keyThatStays (.agg (e.f a).toArray) (.agg (e.f a).toArray)).run P w= .ok (.agg (e.f a).toArray) w:=by
 have h:Instr.sameBits 10000 (.agg (e.f a).toArray) (.agg (e.f a).toArray)=true:=by
  have A: ∀(l:List Value),(∀c∈l,Instr.sameBits 9999 c c=true)->((l.zip l).all λ(x,y)=>Instr.sameBits 9999 x y)=true:=by
   intro l
   induction l with
   |nil=>intro _;rfl
   |cons c l B=>
    intro p;rw [List.zip_cons_cons,List.all_cons,Bool.and_eq_true];exact⟨p c List.mem_cons_self,B λC E=>p C (List.mem_cons_of_mem _ E)⟩
  show(_==_&&_)=true;rw [Bool.and_eq_true];exact⟨by simp,A _ (K.sb a)⟩
 unfold Instr.keyThatStays;rw [if_pos h];rfl
theorem WK.ask (K:WK P kt e) (G:ν->Value) (a:κ) (v:ν) (w:World): ∀(A:List MapEntry) (m:List (κ×ν)) (i:Nat),A.map (λe=>(e.key,e.val))=eY e G m->
  (m.any (λp=>decide (p.1=a))=false->(Instr.findAsking kt (.agg (e.f a).toArray) A i).run P w= .ok none w)/\
  (∀p,m.find? (λp=>decide (p.1=a))=some p-> ∃j,(Instr.findAsking kt (.agg (e.f a).toArray) A i).run P w= .ok (some (i+j,G p.2)) w/\(A[j]?).map (·.key)=some (.agg (e.f a).toArray)/\
   (A.modify j λx=>{x with key:= .agg (e.f a).toArray,val:=G v}).map (λe=>(e.key,e.val))=eY e G (pM m a v))
 | [],[],i,_=>⟨λ_=>rfl,λp h=>by simp at h⟩
 | [],_::_,i,h=>by simp [eY]at h
 |_::_,[],i,h=>by simp [eY]at h
 |x::A,q::l,i,h=>by
  simp only [List.map_cons,eY,List.cons.injEq,Prod.mk.injEq]at h;obtain⟨⟨E,J⟩,L⟩:=h;have Q:=WK.ask K G a v w A l (i+1) L;have X:decide (a=q.1)=decide (q.1=a):=by rw [decide_eq_decide];exact eq_comm
  have H:(Instr.findAsking kt (.agg (e.f a).toArray) (x::A) i).run P w=if decide (q.1=a)=true then .ok (some (i,x.val)) w else(Instr.findAsking kt (.agg (e.f a).toArray) A (i+1)).run P w:=by
   rw [Instr.findAsking,E];simp only [Sem.run_bind,K.equal a q.1 w,Result.andThen_ok,X]
   cases decide (q.1=a)<;>rfl
  constructor
  ·intro I;rw [List.any_cons,Bool.or_eq_false_iff]at I;rw [H,I.1];exact Q.1 I.2
  ·intro p B;rw [List.find?_cons]at B
   cases c:decide (q.1=a)with
   |true=>
    rw [c]at B;obtain rfl:=oI B;refine⟨0,by rw [H,c,if_pos rfl,J];rfl,?_,?_⟩
    ·have C:q.1=a:=of_decide_eq_true c;simp [E,C]
    ·have C:q.1=a:=of_decide_eq_true c;simp only [List.modify_zero_cons,List.map_cons,pM,if_pos C,eY];rw [L]
   |false=>
    rw [c]at B;obtain⟨j,Y,h5,h6⟩:=Q.2 p B;refine⟨j+1,by rw [H,c,if_neg (by simp),Y];simp;omega,by simpa using h5,?_⟩;have C: ¬q.1=a:=of_decide_eq_false c;simp only [List.modify_succ_cons,List.map_cons,pM,if_neg C,eY];rw [h6,E,J];rfl
theorem WK.find (K:WK P kt e)(G:ν->Value)(a:κ)(v:ν)(w:World)(A:List MapEntry)(m:List (κ×ν))(h:A.map (λe=>(e.key,e.val))=eY e G m):
  (m.any (λp=>decide (p.1=a))=false->(Instr.findKey kt (.agg (e.f a).toArray) A).run P w= .ok none w)/\
  (∀p,m.find? (λp=>decide (p.1=a))=some p-> ∃j,(Instr.findKey kt (.agg (e.f a).toArray) A).run P w= .ok (some (j,G p.2)) w/\(A[j]?).map (·.key)=some (.agg (e.f a).toArray)/\
   (A.modify j λx=>{x with key:= .agg (e.f a).toArray,val:=G v}).map (λe=>(e.key,e.val))=eY e G (pM m a v)):=by
 obtain⟨d,hd,B⟩:=K.nn;have q:=K.ask G a v w A m 0 h;have C:(Instr.findKey kt (.agg (e.f a).toArray) A).run P w=(Instr.findAsking kt (.agg (e.f a).toArray) A 0).run P w:=by
  unfold Instr.findKey;simp only [Sem.run_bind,run_underlying hd,Result.andThen_ok]
  cases A with
  |nil=>rfl
  |cons x A=>rw [Instr.findNow,B]
 rw [C];refine⟨q.1,λp E=>?_⟩;obtain⟨j,H,_⟩:=q.2 p E;exact⟨0+j,H,by rwa [Nat.zero_add]⟩
end
section
variable {P:Program}{ρ:Env}{w w0:World}{d:Option Tmp}{x y z:Operand}{t kt et ty:TypeId}{pos:String}{af:Array Edge}{g:Option (Nat×Bool)}{O S:List Nat}{l:List Th}{i b:Nat}{κ ν:Type}{e:Fl κ}{G:ν->Value}{m m':List (κ×ν)}{k:κ}{v u:ν}{hb:Bool}
theorem aKo [DecidableEq κ] (K:WK P kt e) (H:Hd O w0 w S l) (i:Nat) (hi:l[i]? =some (.mp b (eY e G m))) (hu:P.underlying t=some (.map kt et)) (hx:ev ρ x= .map (some b)) (hy:ev ρ y= .agg (e.f k).toArray) (hz:ev ρ z=G v) (L:pM m k v=m'):
  ∃w',DoU P ⟨none,.mapUpdate t x y z,ty,pos,af,g⟩ ρ w w'/\Hd O w0 w' S (l.set i (.mp b (eY e G m'))):=by
 subst L;obtain⟨h,c,A,Q,h3⟩: ∃(h:Array MapEntry) (c:Nat),w.heap[b]? =some (.map h c)/\h.toList.map (λe=>(e.key,e.val))=eY e G m/\StB h c:=H.V hi;have hc:(Instr.checkKey false 10000 kt (.agg (e.f k).toArray)).run P w= .ok () w:=K.chk _ _ _
 cases ha:m.any (λp=>decide (p.1=k))with
 |false=>
  have X:=(K.find G k v w h.toList m Q).1 ha;have C:=MapKept.heap_set (o':=Obj.map (h.push {key:= .agg (e.f k).toArray,val:=G v,born:=c}) (c+1)) A;refine⟨{w with heap:=w.heap.setIfInBounds b (.map (h.push {key:= .agg (e.f k).toArray,val:=G v,born:=c}) (c+1))},?_,?_⟩
  ·unfold DoU;have q:(Instr.mapUpdate t (.map (some b)) (.agg (e.f k).toArray) (G v)).run P w= .ok () {w with heap:=w.heap.setIfInBounds b (.map (h.push {key:= .agg (e.f k).toArray,val:=G v,born:=c}) (c+1))}:=by
    simp [Instr.mapUpdate,run_underlying hu,MapKept.run_getObj_map A,hc,X,MapKept.run_setObj_map _ A,Result.andThen]
   simp [execOp,hx,hy,hz,q]
  ·refine H.turn hi ⟨rfl,rfl,rfl,by simp,λj E Y=>?_⟩ (λ_=>⟨_,_,C.1,?_,aJk h3 _ _⟩) (λj E=>?_) (by simp [Th.blocks])
   ·exact C.2 j (by simpa [Th.blocks]using Y)
   ·rw [Array.toList_push,List.map_append,Q,aKt k v ha];simp [eY]
   ·obtain rfl:j=b:=by simpa [Th.blocks]using E
    refine⟨.inl (by simp [Th.blocks]),?_⟩;have:=(Array.getElem?_eq_some_iff.1 A).1;simpa using this
 |true=>
  obtain⟨p,L⟩: ∃p,m.find? (λp=>decide (p.1=k))=some p:=by
   cases hq:m.find? (λp=>decide (p.1=k))with
   |some p=>exact⟨p,rfl⟩
   |none=>
    rw [List.find?_eq_none]at hq;rw [List.any_eq_true]at ha;obtain⟨p,h5,h6⟩:=ha;exact absurd h6 (hq p h5)
  obtain⟨j,X,I,J⟩:=(K.find G k v w h.toList m Q).2 p L;have B:((h[j]?).map (·.key)).getD (.agg (e.f k).toArray)= .agg (e.f k).toArray:=by
   have:(h[j]?).map (·.key)=some (.agg (e.f k).toArray):=by simpa using I
   rw [this];rfl
  have C:=MapKept.heap_set (o':=Obj.map (h.modify j λx=>{x with key:= .agg (e.f k).toArray,val:=G v}) c) A;refine⟨{w with heap:=w.heap.setIfInBounds b (.map (h.modify j λx=>{x with key:= .agg (e.f k).toArray,val:=G v}) c)},?_,?_⟩
  ·unfold DoU;have aa:=K.stays k w;have q:(Instr.mapUpdate t (.map (some b)) (.agg (e.f k).toArray) (G v)).run P w= .ok () {w with heap:=w.heap.setIfInBounds b (.map (h.modify j λx=>{x with key:= .agg (e.f k).toArray,val:=G v}) c)}:=by
    simp [Instr.mapUpdate,run_underlying hu,MapKept.run_getObj_map A,hc,X,B,aa,MapKept.run_setObj_map _ A,Result.andThen]
   simp [execOp,hx,hy,hz,q]
  ·refine H.turn hi ⟨rfl,rfl,rfl,by simp,λj E Y=>?_⟩ (λ_=>⟨_,_,C.1,?_,aXk h3 _ _ λ_=>rfl⟩) (λj E=>?_) (by simp [Th.blocks])
   ·exact C.2 j (by simpa [Th.blocks]using Y)
   ·rw [Array.toList_modify];exact J
   ·obtain rfl:j=b:=by simpa [Th.blocks]using E
    refine⟨.inl (by simp [Th.blocks]),?_⟩;have:=(Array.getElem?_eq_some_iff.1 A).1;simpa using this
theorem aGr [DecidableEq κ] (K:WK P kt e){F:Nat->Prop}{zv:ν}(h:Th.holds F w (.mp b (eY e G m)))(C:P.underlying t=some (.map kt et))(L:(zeroValue et).run P w= .ok (G zv) w)(ok:Bool):
  (Instr.lookup t (.map (some b)) (.agg (e.f k).toArray) ok).run P w= .ok (if ok then .tuple #[G (jB m k zv),.bool (aCw m k)]else G (jB m k zv)) w:=by
 obtain⟨E,c,H,I,-⟩:=h;have J: ∀q,(Instr.checkKey q 10000 kt (.agg (e.f k).toArray)).run P w= .ok () w:=λq=>K.chk _ _ _
 unfold jB aCw
 cases hf:m.find? λp=>decide (p.1=k)with
 |none=>
  have A:m.any (λp=>decide (p.1=k))=false:=by
   rw [List.find?_eq_none]at hf;rw [List.any_eq_false];intro p Q;exact hf p Q
  have B:=(K.find G k zv w E.toList m I).1 A
  cases ok<;>simp [Instr.lookup,run_underlying C,MapKept.run_getObj_map H,J,B,L,Result.andThen,A]
 |some p=>
  obtain⟨j,B,-⟩:=(K.find G k zv w E.toList m I).2 p hf;have A:m.any (λp=>decide (p.1=k))=true:=by
   have q:=List.find?_some hf;exact List.any_eq_true.2 ⟨p,List.mem_of_find?_eq_some hf,q⟩
  cases ok<;>simp [Instr.lookup,run_underlying C,MapKept.run_getObj_map H,J,B,Result.andThen,A]
theorem aTl [DecidableEq κ] (K:WK P kt e){F:Nat->Prop}{zv:ν}(h:Th.holds F w (.mp b (eY e G m)))(p:P.underlying t=some (.map kt et))(A:ev ρ x= .map (some b))(B:ev ρ y= .agg (e.f k).toArray)(C:(zeroValue et).run P w= .ok (G zv) w):
    Do P ⟨d,.lookup t x y false,ty,pos,af,g⟩ ρ w (G (jB m k zv)) w:=by
 unfold Do;have q:=aGr (k:=k) K h p C false;simp [execOp,A,B,q]
theorem aQh [DecidableEq κ] (K:WK P kt e){F:Nat->Prop}{zv:ν}(h:Th.holds F w (.mp b (eY e G m)))(p:P.underlying t=some (.map kt et))(A:ev ρ x= .map (some b))(B:ev ρ y= .agg (e.f k).toArray)(C:(zeroValue et).run P w= .ok (G zv) w)(E:jB m k zv=u)(H:aCw m k=hb):
    Do P ⟨d,.lookup t x y true,ty,pos,af,g⟩ ρ w (.tuple #[G u,.bool hb]) w:=by
 subst E H;unfold Do;have q:=aGr (k:=k) K h p C true;simp [execOp,A,B,q]
end
section
variable {P:Program}{ρ:Env}{w w0:World}{x y:Operand}{t ty T:TypeId}{pos:String}{af:Array Edge}{g:Option (Nat×Bool)}{O S:List Nat}{l:List Th}{α:Type}{a:α}{j:Int}{b o k:Nat}{v:Value}
theorem Cells.mid {pre cs post all:List Value}(h:Cells w ⟨b,o,none⟩ all)(f:all=pre++(cs++post))(p:pre.length=k):Cells w ⟨b,o+k,none⟩ cs:=by
 subst f;subst p;have q:=Cells.drop h pre.length cs.length;rw [List.drop_left' rfl,List.take_left' rfl]at q;exact q
theorem aTn {cs post vs:List Value}{i:Nat}(h:i+vs.length<=cs.length):splice (cs++post) i vs=splice cs i vs++post:=by
 unfold splice;rw [List.take_append_of_le_length (by omega),List.drop_append_of_le_length h];simp only [List.append_assoc]
theorem aFq {pre old vs post cs cs':List Value}{n:Nat}(H:Hd O w0 w S l)(m:Nat)(hi:l[m]? =some (.blk b cs T))(p:cs=pre++(old++post))(f:cs'=pre++(vs++post))(E:Sz P t n)(B:pre.length=k)(A:old.length=n)(h:vs.length=n)(I:ev ρ x= .pointer (some ⟨b,0+k,none⟩))(J:ev ρ y=v)(L:v.cells=vs.toArray)(Q: ∀c∈vs,c.oneCell'=true):
  ∃w',DoU P ⟨none,.store t x y,ty,pos,af,g⟩ ρ w w'/\Hd O w0 w' S (l.set m (.blk b cs' T)):=by
 subst p;subst f;obtain⟨w',X,C⟩:=vF (P:=P) (ρ:=ρ) (ty:=ty) (pos:=pos) (af:=af) (g:=g) E h I (by rw [J,L]) Q (H.V hi) (by rw [List.length_append,List.length_append,B,A,h];omega);have Y:splice (pre++(old++post)) (0+k) vs=pre++(vs++post):=by
  have:=aTc (pre:=pre) (k:=k) (cs:=old++post) (i:=0) (vs:=vs) B;rw [Nat.add_zero]at this;rw [this,aTn (by rw [A,h];omega),aKb (by rw [A,h])]
 rw [Y]at C;exact⟨w',X,H.wr hi C⟩
end
def Fhl (a b:Str):Option Int:=some (if slt a b=true then-1 else if slt b a=true then 1 else 0)
section
variable {P:Program}{N:Nat}{ops:Array Oper}{K:Env->World->Prop}{fuel k:Nat}{listed:Array Bool}{ρ:Env}{w:World}{d:Nat}{op:Op}{ty:TypeId}{pos:String}{af:Array Edge}{g:Option (Nat×Bool)}{v:Value}
def aWl (N:Nat)(K:Env->World->Prop):Exit->Act->World->Prop:=λe a w=>e= .normal/\ ∃ρ,Fits N a ρ/\K ρ w
def AL (P:Program)(N:Nat)(ops:Array Oper)(K:Env->World->Prop)(fuel:Nat)(listed:Array Bool)(ρ:Env)(w:World):Prop:=
 ∀a,Fits N a ρ->wpAny P .any ops (aWl N K) fuel listed a w
def AO (P:Program)(N:Nat)(ops:Array Oper)(K:Env->World->Prop)(fuel:Nat)(listed:Array Bool)(i:Nat)(ρ:Env)(w:World):Prop:=
 ∀a,Fits N a ρ->wpOp P ops (aWl N K) i (wpAny P .any ops (aWl N K) fuel (listed.setIfInBounds i true)) a w
theorem WP_any {id:Nat}{l:List Oper}{Q:Exit->Env->World->Prop} (hm:P.follows .mixedOrders=true) (h: ∀w',fJ w w'->AL P N l.toArray (λρ w=>Q .normal ρ w) l.length (Array.replicate l.length false) ρ w'):WP P N (.region id l.toArray true) Q ρ w:=by
 intro a p;refine wp_mono (wp_region_any (Q:=aWl N λρ w=>Q .normal ρ w) hm ?_) ?_
 ·have:=h {w with drawn:=w.drawn+1} ((Below.refl _ _).drew) a p;simpa using this
 ·rintro e _ w' ⟨rfl,f,A,B⟩;exact⟨f,A,B⟩
theorem kY {i:Nat}(hi:ops[i]? =some ⟨some d,op,ty,pos,af,g⟩)(p:Region.noSelect ops=true)(A:Region.free .any ops listed i=true)(B:(Region.ready .any ops listed).contains i=true)(C:fM N ops ρ ⟨some d,op,ty,pos,af,g⟩=true)(hd:Nat.blt d N=true)
    (h: ∀w',Do P ⟨some d,op,ty,pos,af,g⟩ ρ w' v w')(n:AL P N ops K fuel (listed.setIfInBounds i true) (upd ρ d v) w):AL P N ops K (fuel+1) listed ρ w:=by
 intro a f;refine wpAny_take hi p A B (λc a w E=>?_) (.inl ⟨by rw [f.wanted];exact C,λw'=>by rw [f.eval];exact h w'⟩) (n _ (f.put (wE hd) v));cases E.1
theorem jY (f:List Nat)(A:Region.ready .any ops listed=f)(p:f≠[])(h: ∀i∈f,AO P N ops K fuel listed i ρ w):AL P N ops K (fuel+1) listed ρ w:=
 λa B=>wpAny_all A p λi hi=>h i hi a B
theorem aCr (f:Region.ready .any ops listed=[])(h:K ρ w):AL P N ops K fuel listed ρ w:=λ_ p=>wpAny_done f ⟨rfl,ρ,p,h⟩ fuel
theorem AO_ex {i:Nat}{R:Value->World->Prop}(hi:ops[i]? =some ⟨some d,op,ty,pos,af,g⟩)(p:fM N ops ρ ⟨some d,op,ty,pos,af,g⟩=true)(hd:Nat.blt d N=true)(h: ∃v w',Do P ⟨some d,op,ty,pos,af,g⟩ ρ w v w'/\R v w')
    (n: ∀v w',R v w'->AL P N ops K fuel (listed.setIfInBounds i true) (upd ρ d v) w'):AO P N ops K fuel listed i ρ w:=by
 obtain⟨v,w',A,B⟩:=h;intro a f;unfold wpOp;simp only [hi];rw [f.wanted,p,if_pos rfl];refine .inl ?_;unfold Oper.wp;rw [f.eval,show(execOp (ev ρ) _).run P w=_ from A];exact n v w' B _ (f.put (wE hd) v)
theorem aMy {i:Nat}(hi:ops[i]? =some ⟨some d,op,ty,pos,af,g⟩)(f:fM N ops ρ ⟨some d,op,ty,pos,af,g⟩=true)(hd:Nat.blt d N=true)(h:Do P ⟨some d,op,ty,pos,af,g⟩ ρ w v w)
  (n:AL P N ops K fuel (listed.setIfInBounds i true) (upd ρ d v) w):AO P N ops K fuel listed i ρ w:=
 AO_ex (R:=λu w'=>u=v/\w'=w) hi f hd ⟨_,_,h,rfl,rfl⟩ (by rintro _ _ ⟨rfl,rfl⟩;exact n)
theorem nU {i:Nat}{R:World->Prop}(hi:ops[i]? =some ⟨none,op,ty,pos,af,g⟩)(p:fM N ops ρ ⟨none,op,ty,pos,af,g⟩=true)(h: ∃w',DoU P ⟨none,op,ty,pos,af,g⟩ ρ w w'/\R w')
    (n: ∀w',R w'->AL P N ops K fuel (listed.setIfInBounds i true) ρ w'):AO P N ops K fuel listed i ρ w:=by
 obtain⟨w',A,B⟩:=h;intro a f;unfold wpOp;simp only [hi];rw [f.wanted,p,if_pos rfl];refine .inl ?_;unfold Oper.wp;rw [f.eval,show(execOp (ev ρ) _).run P w=_ from A];exact n w' B _ f
theorem all1 {p:Nat->Prop}{a:Nat}(h:p a): ∀i∈ [a],p i:=by intro i hi;obtain rfl:=mS.1 hi;exact h
theorem allC {p:Nat->Prop}{a:Nat}{l:List Nat}(h:p a)(t: ∀i∈l,p i): ∀i∈a::l,p i:=by
 intro i hi;rcases List.mem_cons.1 hi with rfl|hi
 ·exact h
 ·exact t i hi
end
theorem uC {κ ν:Type} [DecidableEq κ] {l l':List (κ×ν)} (h:l.Perm l') (A:(l.map Prod.fst).Nodup) (k:κ) (z:ν):jB l k z=jB l' k z:=by
 have B: ∀{l:List (κ×ν)}{p:κ×ν},(l.map Prod.fst).Nodup->p∈l->p.1=k->jB l k z=p.2:=by
  intro l
  induction l with
  |nil=>intro p _ f;cases f
  |cons q l I=>
   intro p A f H;rw [List.map_cons,List.nodup_cons]at A;unfold jB;rw [List.find?_cons];rcases List.mem_cons.1 f with rfl|f
   ·simp [H]
   ·have J: ¬q.1=k:=λe=>A.1 (List.mem_map.2 ⟨p,f,by rw [H,e]⟩)
    simp only [J,decide_false];exact I A.2 f H
 by_cases f: ∃p∈l,p.1=k
 ·obtain⟨p,C,E⟩:=f;rw [B A C E,B ((h.map Prod.fst).nodup_iff.1 A) (h.subset C) E]
 ·have e: ∀{m:List (κ×ν)},(¬ ∃p∈m,p.1=k)->jB m k z=z:=by
   intro m hm;unfold jB;have:m.find? (λp=>decide (p.1=k))=none:=List.find?_eq_none.2 λp L Q=>hm ⟨p,L,of_decide_eq_true Q⟩
   rw [this]
  rw [e f,e λ⟨p,C,E⟩=>f ⟨p,h.symm.subset C,E⟩]
end Go.Lf
