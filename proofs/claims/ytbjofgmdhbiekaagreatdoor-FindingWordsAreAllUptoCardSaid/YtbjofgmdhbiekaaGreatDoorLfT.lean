/- Laws that the claim stands on; no condition beyond those stated. -/
import Derived.Test.YtbjofgmdhbiekaaGreatDoorLfS
import Derived.Maps.RangeRun
namespace Go.Lf
open Go.RowKit Go.OB
section ff
variable {α β:Type}
end ff
section hd
variable {P:Program}{ρ:Env}{w w0 w1 w':World}{d:Option Tmp}{x y z:Operand}{t u ty e:TypeId}{pos:String}{af:Array Edge}{g:Option (Nat×Bool)}
variable {v:Value}{b o i n c s m:Nat}{k k':IntKind}{cs xs vs:List Value}{bs:List Nat}{T:TypeId}{O O' S M:List Nat}{l l2:List Th}{α β:Type}{r:Rp α}{R:Rt α}{D:Hol}{xl yl zl:List α}{a:α}{j q:Int}{F:Nat->Prop}
end hd
section ops
variable {P:Program}{ρ:Env}{w w0 w1 w':World}{d:Option Tmp}{x y z:Operand}{t u ty e:TypeId}{pos:String}{af:Array Edge}{g:Option (Nat×Bool)}
variable {v:Value}{b o i n c s m:Nat}{k k':IntKind}{cs xs vs:List Value}{bs:List Nat}{T:TypeId}{O O' S M:List Nat}{l l2:List Th}{α β:Type}{r:Rp α}{R:Rt α}{D:Hol}{xl yl zl:List α}{a:α}{j q:Int}{F:Nat->Prop}
theorem aJx {pre cs vs:List Value}{k i:Nat}(hk:pre.length=k):splice (pre++cs) (0+k+i) vs=pre++splice cs i vs:=by
 subst hk;unfold splice;rw [Nat.zero_add,List.take_append,List.take_of_length_le (by omega),show pre.length+i-pre.length=i by omega,List.drop_append,List.drop_eq_nil_of_le (by omega),List.nil_append,show pre.length+i+vs.length-pre.length=i+vs.length by omega];simp
theorem kT: ∀{l:List Value},(∀v∈l,v.oneCell'=true)->aDx l
 | [],_=>trivial
 |v::l,h=>⟨h v (by simp),kT λu A=>h u (by simp [A])⟩
theorem dJ: ∀{l m:List Value},aDx l->aDx m->aDx (l++m)
 | [],_,_,h=>h
 |_::_,_,h,k=>⟨h.1,dJ h.2 k⟩
end ops
def aCs {κ ν:Type} [DecidableEq κ] (l:List (κ×ν))(k:κ):Bool:=l.any λp=>decide (p.1=k)
end Go.Lf
namespace Go.MxM
open Go.OB Go.RowKit
theorem XL_effCA {P:Program}{I:World->Prop}{N:Nat}{ops:Array Oper}{κ:List Kd}{K:Mm->Env->World->Prop}{k:Nat}{M:Mm}{σ:List Nat}{rest:List Oper}{ρ:Env}{w:World}{d:Nat}{op:Op}{ty:TypeId}{pos:String}{af:Array Edge}{g:Option (Nat×Bool)}{f:FuncId}{args:Array Value}{R:World->Ending->World->Prop}(X: ∀w w',I w->fK w w'->I w')(hk:kdOf κ k= .eff)(Y:fO N ops ρ ⟨some d,op,ty,pos,af,g⟩=true)(hd:Nat.blt d N=true)(h: ∀w',fK w w'->DoC P ⟨some d,op,ty,pos,af,g⟩ ρ w' f args)
    (hc: ∀w',fK w w'->Calls P f args w' (R w'))(n: ∀w' e B,fK w w'->R w' e B-> ∃v,e= .returned v/\I B/\XL P I N ops κ K (some λx=>x<B.heap.size) σ rest (upd ρ d v) B):XL P I N ops κ K M (k::σ) (⟨some d,op,ty,pos,af,g⟩::rest) ρ w:=by
 intro L w' C _ a H;simp only [aB];unfold xOp;simp only [XL.head L,hk];refine .inl ⟨by rw [H.wanted];exact Y,.inr (.inr ⟨f,args,by rw [H.eval];exact h w' C,(hc w' C).mono λe B hR=>?_⟩)⟩;obtain⟨v,he,Q,J⟩:=n w' e B C hR;exact⟨v,he,Q,_,λ_ e x J=>by cases e;exact J,λw3 E=>J (XL.tail L) w3 E (X _ _ Q E) _ (H.put (xR hd) v)⟩
end Go.MxM
namespace Go.Lf
open Go.RowKit Go.OB
theorem Hd.alloc_ruleA {P:Program}{N:Nat}{ops:Array Oper}{κ:List MxM.Kd}{K:MxM.Mm->Env->World->Prop}{k:Nat}{σ:List Nat}{rest:List Oper}{ρ:Env}{w w0:World}{d:Nat}{ty t:TypeId}{pos:String}{af:Array Edge}{g:Option (Nat×Bool)}{O S:List Nat}{l:List Th}{cs:List Value}{B:Nat} (H:Hd O w0 w S l) (hk:MxM.kdOf κ k= .mk B) (I:fO N ops ρ ⟨some d,.alloc t,ty,pos,af,g⟩=true) (hd:Nat.blt d N=true) (h:OB.Zero P t cs)
  (n: ∀M b w',Hd O w0 w' S (l++[.blk b cs t])->MxM.XL P (λw'=>Only S w0 w') N ops κ K M σ rest (upd ρ d (.pointer (some ⟨b,0,none⟩))) w'):
  MxM.XL P (λw'=>Only S w0 w') N ops κ K (some λx=>x<w.heap.size) (k::σ) (⟨some d,.alloc t,ty,pos,af,g⟩::rest) ρ w:=by
 refine MxM.XL_mk (m:= .ptr) (cs:=cs) (T:=t) (λ_ _=>oS _ _) hk I hd (λw' _=>?_) λb w' J _ L E=>n _ b w' (H.add (Only.of_below J) (λ_=>E) (λQ A=>?_) (by simp [Th.blocks]))
 ·unfold OB.Zero at h
  cases hi:P.info? t with
  |none=>rw [hi]at h;cases h
  |some C=>
   rw [hi]at h
   cases hzz:C.zero with
   |none=>simp [hzz]at h
   |some _=>
    simp [hzz]at h;unfold Do;simp [execOp,Instr.alloc,zeroValue,typeInfo,hi,hzz,newVar,newRow,newObj,Sem.run,<-h,MxM.Mk.val]
 ·have:Q=b:=by simpa [Th.blocks]using A
  subst this;exact⟨Nat.le_of_not_lt L,(Array.getElem?_eq_some_iff.1 E).1⟩
section
variable {P:Program}{ρ:Env}{w:World}{d:Option Tmp}{x y z:Operand}{t u tz ty:TypeId}{pos:String}{af:Array Edge}{g:Option (Nat×Bool)}{k:IntKind}{a b c:Int}
theorem Do_min3 {r:Int}(A:ev ρ x= .int k a)(B:ev ρ y= .int k b)(C:ev ρ z= .int k c)(h:min (min a b) c=r):Do P ⟨d,.call {callee:= .builtin .min,args:= #[x,y,z],argTypes:= #[t,u,tz]},ty,pos,af,g⟩ ρ w (.int k r) w:=by
 subst h;have E:min a b=if b<a then b else a:=by split<;>omega
 have H: ∀m:Int,min m c=if c<m then c else m:=λm=>by split<;>omega
 unfold Do;simp [execOp,resolve,invoke,builtin,Builtin.min_,Builtin.min2,A,B,C,E,H]
end
def plainCell:Value->Bool
 | .int _ _=>true
 | .bool _=>true
 | .string _=>true
 |_=>false
theorem sb_of {l:List Value}(h:l.all plainCell=true): ∀c∈l,Instr.sameBits 9999 c c=true:=by
 intro c A;have:=List.all_eq_true.1 h c A
 cases c<;>first |(simp [plainCell]at this;done)|simp [Instr.sameBits,MapKept.bytes_beq]
structure WK (P:Program)(kt:TypeId){κ:Type} [DecidableEq κ] (e:Fl κ):Prop where
 nn: ∃d,P.underlying kt=some d/\ ∀x y,Instr.sameNow d x y=none
 chk: ∀(b:Bool) (a:κ) (w:World),(Instr.checkKey b 10000 kt (.agg (e.f a).toArray)).run P w= .ok () w
 eq: ∃k,k<=10000/\EqF P kt e k
 ho:Agg P kt
 hs:Sz P kt e.sz
 sb: ∀a,∀c∈e.f a,Instr.sameBits 9999 c c=true
def eP {κ ν:Type}(e:Fl κ)(G:ν->Value)(l:List (κ×ν)):List (Value×Value):=l.map λp=>(.agg (e.f p.1).toArray,G p.2)
section
variable {P:Program}{kt:TypeId}{κ ν:Type} [DecidableEq κ] {e:Fl κ}{w:World}
theorem WK.equal (K:WK P kt e)(a b:κ)(w:World):(Op.equal kt (.agg (e.f a).toArray) (.agg (e.f b).toArray)).run P w= .ok (decide (a=b)) w:=by
 obtain⟨k,hk,C⟩:=K.eq;obtain⟨_,_,h,A,B⟩:=C (10000-k) (e.f a).toArray (e.f b).toArray 0 a b w (by simp [List.take_of_length_le,e.len]) (by simp [List.take_of_length_le,e.len]);rw [aJm K.ho K.hs]at h A;simp only [List.drop_zero,List.take_of_length_le (Nat.le_of_eq (e.len a)),List.take_of_length_le (Nat.le_of_eq (e.len b))]at h A;cases h;cases A;rw [Nat.sub_add_cancel hk]at B;exact B
theorem WK.stays (K:WK P kt e)(a:κ)(w:World):(Instr.keyThatStays (.agg (e.f a).toArray) (.agg (e.f a).toArray)).run P w= .ok (.agg (e.f a).toArray) w:=by
 have h:Instr.sameBits 10000 (.agg (e.f a).toArray) (.agg (e.f a).toArray)=true:=by
  have B: ∀(l:List Value),(∀c∈l,Instr.sameBits 9999 c c=true)->((l.zip l).all λ(x,y)=>Instr.sameBits 9999 x y)=true:=by
   intro l
   induction l with
   |nil=>intro _;rfl
   |cons c l C=>
    intro A;rw [List.zip_cons_cons,List.all_cons,Bool.and_eq_true];exact⟨A c List.mem_cons_self,C λE H=>A E (List.mem_cons_of_mem _ H)⟩
  show(_==_&&_)=true;rw [Bool.and_eq_true];exact⟨by simp,B _ (K.sb a)⟩
 unfold Instr.keyThatStays;rw [if_pos h];rfl
theorem WK.ask (K:WK P kt e) (G:ν->Value) (a:κ) (v:ν) (w:World): ∀(A:List MapEntry) (m:List (κ×ν)) (i:Nat),A.map (λe=>(e.key,e.val))=eP e G m->
  (m.any (λp=>decide (p.1=a))=false->(Instr.findAsking kt (.agg (e.f a).toArray) A i).run P w= .ok none w)/\
  (∀p,m.find? (λp=>decide (p.1=a))=some p-> ∃j,(Instr.findAsking kt (.agg (e.f a).toArray) A i).run P w= .ok (some (i+j,G p.2)) w/\(A[j]?).map (·.key)=some (.agg (e.f a).toArray)/\
   (A.modify j λx=>{x with key:= .agg (e.f a).toArray,val:=G v}).map (λe=>(e.key,e.val))=eP e G (kJ m a v))
 | [],[],i,_=>⟨λ_=>rfl,λp h=>by simp at h⟩
 | [],_::_,i,h=>by simp [eP]at h
 |_::_,[],i,h=>by simp [eP]at h
 |x::A,q::l,i,h=>by
  simp only [List.map_cons,eP,List.cons.injEq,Prod.mk.injEq]at h;obtain⟨⟨h1,I⟩,J⟩:=h;have L:=WK.ask K G a v w A l (i+1) J;have Q:decide (a=q.1)=decide (q.1=a):=by rw [decide_eq_decide];exact eq_comm
  have E:(Instr.findAsking kt (.agg (e.f a).toArray) (x::A) i).run P w=if decide (q.1=a)=true then .ok (some (i,x.val)) w else(Instr.findAsking kt (.agg (e.f a).toArray) A (i+1)).run P w:=by
   rw [Instr.findAsking,h1];simp only [Sem.run_bind,K.equal a q.1 w,Result.andThen_ok,Q]
   cases decide (q.1=a)<;>rfl
  constructor
  ·intro H;rw [List.any_cons,Bool.or_eq_false_iff]at H;rw [E,H.1];exact L.1 H.2
  ·intro p B;rw [List.find?_cons]at B
   cases c:decide (q.1=a)with
   |true=>
    rw [c]at B;obtain rfl:=oI B;refine⟨0,by rw [E,c,if_pos rfl,I];rfl,?_,?_⟩
    ·have C:q.1=a:=of_decide_eq_true c;simp [h1,C]
    ·have C:q.1=a:=of_decide_eq_true c;simp only [List.modify_zero_cons,List.map_cons,kJ,if_pos C,eP];rw [J]
   |false=>
    rw [c]at B;obtain⟨j,X,Y,h6⟩:=L.2 p B;refine⟨j+1,by rw [E,c,if_neg (by simp),X];simp;omega,by simpa using Y,?_⟩;have C: ¬q.1=a:=of_decide_eq_false c;simp only [List.modify_succ_cons,List.map_cons,kJ,if_neg C,eP];rw [h6,h1,I];rfl
theorem WK.find (K:WK P kt e)(G:ν->Value)(a:κ)(v:ν)(w:World)(A:List MapEntry)(m:List (κ×ν))(h:A.map (λe=>(e.key,e.val))=eP e G m):
  (m.any (λp=>decide (p.1=a))=false->(Instr.findKey kt (.agg (e.f a).toArray) A).run P w= .ok none w)/\
  (∀p,m.find? (λp=>decide (p.1=a))=some p-> ∃j,(Instr.findKey kt (.agg (e.f a).toArray) A).run P w= .ok (some (j,G p.2)) w/\(A[j]?).map (·.key)=some (.agg (e.f a).toArray)/\
   (A.modify j λx=>{x with key:= .agg (e.f a).toArray,val:=G v}).map (λe=>(e.key,e.val))=eP e G (kJ m a v)):=by
 obtain⟨d,hd,B⟩:=K.nn;have q:=K.ask G a v w A m 0 h;have C:(Instr.findKey kt (.agg (e.f a).toArray) A).run P w=(Instr.findAsking kt (.agg (e.f a).toArray) A 0).run P w:=by
  unfold Instr.findKey;simp only [Sem.run_bind,run_underlying hd,Result.andThen_ok]
  cases A with
  |nil=>rfl
  |cons x A=>rw [Instr.findNow,B]
 rw [C];refine⟨q.1,λp E=>?_⟩;obtain⟨j,h1,_⟩:=q.2 p E;exact⟨0+j,h1,by rwa [Nat.zero_add]⟩
end
section
variable {P:Program}{ρ:Env}{w w0:World}{d:Option Tmp}{x y z:Operand}{t kt et ty:TypeId}{pos:String}{af:Array Edge}{g:Option (Nat×Bool)}{O S:List Nat}{l:List Th}{i b:Nat}{κ ν:Type}{e:Fl κ}{G:ν->Value}{m m':List (κ×ν)}{k:κ}{v u:ν}{hb:Bool}
theorem aAo [DecidableEq κ] (K:WK P kt e) (H:Hd O w0 w S l) (i:Nat) (hi:l[i]? =some (.mp b (eP e G m))) (hu:P.underlying t=some (.map kt et)) (hx:ev ρ x= .map (some b)) (hy:ev ρ y= .agg (e.f k).toArray) (hz:ev ρ z=G v) (J:kJ m k v=m'):
  ∃w',DoU P ⟨none,.mapUpdate t x y z,ty,pos,af,g⟩ ρ w w'/\Hd O w0 w' S (l.set i (.mp b (eP e G m'))):=by
 subst J;obtain⟨h,c,h1,L,h3⟩: ∃(h:Array MapEntry) (c:Nat),w.heap[b]? =some (.map h c)/\h.toList.map (λe=>(e.key,e.val))=eP e G m/\StB h c:=H.V hi;have hc:(Instr.checkKey false 10000 kt (.agg (e.f k).toArray)).run P w= .ok () w:=K.chk _ _ _
 cases ha:m.any (λp=>decide (p.1=k))with
 |false=>
  have Q:=(K.find G k v w h.toList m L).1 ha;have B:=MapKept.heap_set (o':=Obj.map (h.push {key:= .agg (e.f k).toArray,val:=G v,born:=c}) (c+1)) h1;refine⟨{w with heap:=w.heap.setIfInBounds b (.map (h.push {key:= .agg (e.f k).toArray,val:=G v,born:=c}) (c+1))},?_,?_⟩
  ·unfold DoU;have q:(Instr.mapUpdate t (.map (some b)) (.agg (e.f k).toArray) (G v)).run P w= .ok () {w with heap:=w.heap.setIfInBounds b (.map (h.push {key:= .agg (e.f k).toArray,val:=G v,born:=c}) (c+1))}:=by
    simp [Instr.mapUpdate,run_underlying hu,MapKept.run_getObj_map h1,hc,Q,MapKept.run_setObj_map _ h1,Result.andThen]
   simp [execOp,hx,hy,hz,q]
  ·refine H.turn hi ⟨rfl,rfl,rfl,by simp,λj C X=>?_⟩ (λ_=>⟨_,_,B.1,?_,aLn h3 _ _⟩) (λj C=>?_) (by simp [Th.blocks])
   ·exact B.2 j (by simpa [Th.blocks]using X)
   ·rw [Array.toList_push,List.map_append,L,aKi k v ha];simp [eP]
   ·obtain rfl:j=b:=by simpa [Th.blocks]using C
    refine⟨.inl (by simp [Th.blocks]),?_⟩;have:=(Array.getElem?_eq_some_iff.1 h1).1;simpa using this
 |true=>
  obtain⟨p,J⟩: ∃p,m.find? (λp=>decide (p.1=k))=some p:=by
   cases hq:m.find? (λp=>decide (p.1=k))with
   |some p=>exact⟨p,rfl⟩
   |none=>
    rw [List.find?_eq_none]at hq;rw [List.any_eq_true]at ha;obtain⟨p,h5,h6⟩:=ha;exact absurd h6 (hq p h5)
  obtain⟨j,Q,E,I⟩:=(K.find G k v w h.toList m L).2 p J;have A:((h[j]?).map (·.key)).getD (.agg (e.f k).toArray)= .agg (e.f k).toArray:=by
   have:(h[j]?).map (·.key)=some (.agg (e.f k).toArray):=by simpa using E
   rw [this];rfl
  have B:=MapKept.heap_set (o':=Obj.map (h.modify j λx=>{x with key:= .agg (e.f k).toArray,val:=G v}) c) h1;refine⟨{w with heap:=w.heap.setIfInBounds b (.map (h.modify j λx=>{x with key:= .agg (e.f k).toArray,val:=G v}) c)},?_,?_⟩
  ·unfold DoU;have Y:=K.stays k w;have q:(Instr.mapUpdate t (.map (some b)) (.agg (e.f k).toArray) (G v)).run P w= .ok () {w with heap:=w.heap.setIfInBounds b (.map (h.modify j λx=>{x with key:= .agg (e.f k).toArray,val:=G v}) c)}:=by
    simp [Instr.mapUpdate,run_underlying hu,MapKept.run_getObj_map h1,hc,Q,A,Y,MapKept.run_setObj_map _ h1,Result.andThen]
   simp [execOp,hx,hy,hz,q]
  ·refine H.turn hi ⟨rfl,rfl,rfl,by simp,λj C X=>?_⟩ (λ_=>⟨_,_,B.1,?_,aYn h3 _ _ λ_=>rfl⟩) (λj C=>?_) (by simp [Th.blocks])
   ·exact B.2 j (by simpa [Th.blocks]using X)
   ·rw [Array.toList_modify];exact I
   ·obtain rfl:j=b:=by simpa [Th.blocks]using C
    refine⟨.inl (by simp [Th.blocks]),?_⟩;have:=(Array.getElem?_eq_some_iff.1 h1).1;simpa using this
theorem aHd [DecidableEq κ] (K:WK P kt e){F:Nat->Prop}{zv:ν}(h:Th.holds F w (.mp b (eP e G m)))(C:P.underlying t=some (.map kt et))(J:(zeroValue et).run P w= .ok (G zv) w)(ok:Bool):
  (Instr.lookup t (.map (some b)) (.agg (e.f k).toArray) ok).run P w= .ok (if ok then .tuple #[G (aI m k zv),.bool (aCs m k)]else G (aI m k zv)) w:=by
 obtain⟨E,c,h1,H,-⟩:=h;have I: ∀q,(Instr.checkKey q 10000 kt (.agg (e.f k).toArray)).run P w= .ok () w:=λq=>K.chk _ _ _
 unfold aI aCs
 cases hf:m.find? λp=>decide (p.1=k)with
 |none=>
  have A:m.any (λp=>decide (p.1=k))=false:=by
   rw [List.find?_eq_none]at hf;rw [List.any_eq_false];intro p L;exact hf p L
  have B:=(K.find G k zv w E.toList m H).1 A
  cases ok<;>simp [Instr.lookup,run_underlying C,MapKept.run_getObj_map h1,I,B,J,Result.andThen,A]
 |some p=>
  obtain⟨j,B,-⟩:=(K.find G k zv w E.toList m H).2 p hf;have A:m.any (λp=>decide (p.1=k))=true:=by
   have q:=List.find?_some hf;exact List.any_eq_true.2 ⟨p,List.mem_of_find?_eq_some hf,q⟩
  cases ok<;>simp [Instr.lookup,run_underlying C,MapKept.run_getObj_map h1,I,B,Result.andThen,A]
theorem aYg [DecidableEq κ] (K:WK P kt e){F:Nat->Prop}{zv:ν}(h:Th.holds F w (.mp b (eP e G m)))(A:P.underlying t=some (.map kt et))(B:ev ρ x= .map (some b))(C:ev ρ y= .agg (e.f k).toArray)(E:(zeroValue et).run P w= .ok (G zv) w):
    Do P ⟨d,.lookup t x y false,ty,pos,af,g⟩ ρ w (G (aI m k zv)) w:=by
 unfold Do;have q:=aHd (k:=k) K h A E false;simp [execOp,B,C,q]
theorem aTm [DecidableEq κ] (K:WK P kt e){F:Nat->Prop}{zv:ν}(h:Th.holds F w (.mp b (eP e G m)))(A:P.underlying t=some (.map kt et))(B:ev ρ x= .map (some b))(C:ev ρ y= .agg (e.f k).toArray)(E:(zeroValue et).run P w= .ok (G zv) w)(H:aI m k zv=u)(I:aCs m k=hb):
    Do P ⟨d,.lookup t x y true,ty,pos,af,g⟩ ρ w (.tuple #[G u,.bool hb]) w:=by
 subst H I;unfold Do;have q:=aHd (k:=k) K h A E true;simp [execOp,B,C,q]
theorem aSh [DecidableEq κ] (K:WK P kt e){F:Nat->Prop}{zv:ν}(h:Th.holds F w (.fz (.mp b (eP e G m))))(A:P.underlying t=some (.map kt et))(B:ev ρ x= .map (some b))(C:ev ρ y= .agg (e.f k).toArray)(E:(zeroValue et).run P w= .ok (G zv) w):
  Do P ⟨d,.lookup t x y false,ty,pos,af,g⟩ ρ w (G (aI m k zv)) w:=aYg (F:=F) K h.2.2 A B C E
end
section
variable {P:Program}{ρ:Env}{w w0:World}{x y:Operand}{t ty T:TypeId}{pos:String}{af:Array Edge}{g:Option (Nat×Bool)}{O S:List Nat}{l:List Th}{α:Type}{a:α}{j:Int}{b o k:Nat}{v:Value}
theorem Cells.mid {pre cs post all:List Value}(h:Cells w ⟨b,o,none⟩ all)(A:all=pre++(cs++post))(hk:pre.length=k):Cells w ⟨b,o+k,none⟩ cs:=by
 subst A;subst hk;have q:=Cells.drop h pre.length cs.length;rw [List.drop_left' rfl,List.take_left' rfl]at q;exact q
theorem aLc {cs post vs:List Value}{i:Nat}(h:i+vs.length<=cs.length):splice (cs++post) i vs=splice cs i vs++post:=by
 unfold splice;rw [List.take_append_of_le_length (by omega),List.drop_append_of_le_length h];simp only [List.append_assoc]
theorem aOh {e:Fl α}{n:Nat}{X Y:Arr n α}{pre post cs cs':List Value}{k:Nat}(H:Hd O w0 w S l)(m:Nat)(hi:l[m]? =some (.blk b cs T))(B:cs=pre++((Fl.arr n e).f X++post))(h:cs'=pre++((Fl.arr n e).f Y++post))(E:Sz P t e.sz)(hk:pre.length=k)(I:ev ρ x= .pointer (some ⟨b,0+k+j.toNat*e.sz,none⟩))(J:ev ρ y=v)(L:v.cells=(e.f a).toArray)(Q:0<=j)(h1:j<n)(hX:Arr.set X j a=Y):
  ∃w',DoU P ⟨none,.store t x y,ty,pos,af,g⟩ ρ w w'/\Hd O w0 w' S (l.set m (.blk b cs' T)):=by
 subst hX;subst B;subst h;have A:0+k+j.toNat*e.sz+(e.f a).length<=(pre++((Fl.arr n e).f X++post)).length:=by
  rw [List.length_append,List.length_append,(Fl.arr n e).len,e.len,hk,Nat.zero_add,Nat.add_assoc,<-Nat.succ_mul];exact Nat.add_le_add_left (Nat.le_trans (Nat.mul_le_mul_right _ (by omega)) (Nat.le_add_right _ _)) _
 obtain⟨w',h2,C⟩:=qX (P:=P) (ρ:=ρ) (ty:=ty) (pos:=pos) (af:=af) (g:=g) E (e.len a) I (by rw [J,L]) (e.one a) (H.V hi) A;rw [aJx hk,aLc (by rw [e.len,(Fl.arr n e).len,<-Nat.succ_mul];exact Nat.mul_le_mul_right _ (by omega)),Arr.f_set Q h1]at C;exact⟨w',h2,H.wr hi C⟩
theorem wF {pre old vs post cs cs':List Value}{n:Nat}(H:Hd O w0 w S l)(m:Nat)(hi:l[m]? =some (.blk b cs T))(B:cs=pre++(old++post))(h:cs'=pre++(vs++post))(I:Sz P t n)(hk:pre.length=k)(C:old.length=n)(A:vs.length=n)(J:ev ρ x= .pointer (some ⟨b,0+k,none⟩))(L:ev ρ y=v)(Q:v.cells=vs.toArray)(h1: ∀c∈vs,c.oneCell'=true):
  ∃w',DoU P ⟨none,.store t x y,ty,pos,af,g⟩ ρ w w'/\Hd O w0 w' S (l.set m (.blk b cs' T)):=by
 subst B;subst h;obtain⟨w',X,E⟩:=qX (P:=P) (ρ:=ρ) (ty:=ty) (pos:=pos) (af:=af) (g:=g) I A J (by rw [L,Q]) h1 (H.V hi) (by rw [List.length_append,List.length_append,hk,C,A];omega);have Y:splice (pre++(old++post)) (0+k) vs=pre++(vs++post):=by
  have:=aJx (pre:=pre) (k:=k) (cs:=old++post) (i:=0) (vs:=vs) hk;rw [Nat.add_zero]at this;rw [this,aLc (by rw [C,A];omega),aVu (by rw [C,A])]
 rw [Y]at E;exact⟨w',X,H.wr hi E⟩
end
def Rt.itr {κ ν:Type}(e:Fl κ)(G:ν->Value)(b r:Nat)(m:List (κ×ν)):Rt (List (κ×ν)×Option (κ×ν)) where
 sz:=1
 rd:=λ_ w cs bs x=>cs=[.pointer (some ⟨r,0,none⟩)]/\bs=[b,r]/\ ∃(B:Array MapEntry) (h A c0:Nat) (seen:Array Nat),w.heap[b]? =some (.map B h)/\B.toList.map (λe=>(e.key,e.val))=eP e G m/\StB B h/\
  w.heap[r]? =some (.mapIter (some b) A seen c0)/\(∀x∈B.toList,x.born<A)/\A<=c0/\A<=h/\((leftOf B seen).toList.map λe=>(e.key,e.val)).Perm (eP e G x.1)/\
  ∀p,x.2=some p->c0=h/\ ∃q∈B.toList,∃s:Array Nat,seen=s.push q.born/\(q.key,q.val)=(.agg (e.f p.1).toArray,G p.2)
 len:=by rintro F w cs bs x ⟨rfl,-⟩;rfl
 one:=by rintro F w cs bs x ⟨rfl,-⟩ v C;obtain rfl:=mS.1 C;rfl
 mono:=by
  rintro F Q w w' cs bs x X hb ⟨h1,rfl,B,h,A,c0,seen,E,H,I,J,L⟩
  exact⟨h1,rfl,B,h,A,c0,seen,(hb b (by simp)).trans E,H,I,(hb r (by simp)).trans J,L⟩
section
variable {P:Program}{ρ:Env}{w w0:World}{d:Option Tmp}{x y z:Operand}{t kt et ty:TypeId}{pos:String}{af:Array Edge}{g:Option (Nat×Bool)}{O S:List Nat}{l:List Th}{i b r:Nat}{κ ν:Type}{e:Fl κ}{G:ν->Value}{m:List (κ×ν)}{td:List (κ×ν)}{cur:Option (κ×ν)}{cs:List Value}{bs:List Nat}
theorem left_nil (h:Array MapEntry):leftOf h #[]=h:=by
 unfold leftOf;exact Array.filter_eq_self.2 λa _=>by simp
theorem Lx_range (H:Hd O w0 w S l) (i:Nat) (hi:l[i]? =some (.mp b (eP e G m))) (J:P.underlying t=some (.map kt et)) (L:ev ρ x= .map (some b)):
  ∃v w',Do P ⟨d,.range t x,ty,pos,af,g⟩ ρ w v w'/\ ∃r,v= .pointer (some ⟨r,0,none⟩)/\Hd O w0 w' S (l.set i (.tr (Rt.itr e G b r m) [.pointer (some ⟨r,0,none⟩)] [b,r] (m,none))):=by
 obtain⟨h,c,h1,C,E⟩: ∃(h:Array MapEntry) (c:Nat),w.heap[b]? =some (.map h c)/\h.toList.map (λe=>(e.key,e.val))=eP e G m/\StB h c:=H.V hi;have A:b<w.heap.size:=(Array.getElem?_eq_some_iff.1 h1).1;refine⟨_,w.alloc (.mapIter (some b) c #[] c),?_,w.heap.size,rfl,?_⟩
 ·unfold Do;simp [execOp,L,run_range_map w t kt et b h c J h1]
 ·refine H.turn hi (Only.mono (Only.of_below (MxM.sees_alloc w _)) (by simp)) (λ_=>⟨rfl,rfl,h,c,c,c, #[],?_,C,E,heap_alloc_new w _,E.1,Nat.le_refl _,Nat.le_refl _,?_,λp Q=>by cases Q⟩) (λj I=>?_) (by simp [Th.blocks];omega)
  ·rw [heap_alloc_old w _ A];exact h1
  ·rw [left_nil,C]
  ·have B:(w.alloc (.mapIter (some b) c #[] c)).heap.size=w.heap.size+1:=by show(w.heap.push _).size=_;simp
   rw [B];simp only [Th.blocks,List.mem_cons,List.not_mem_nil,or_false]at I;rcases I with rfl|rfl
   ·exact⟨.inl (by simp [Th.blocks]),by omega⟩
   ·exact⟨.inr (Nat.le_refl _),by omega⟩
theorem aYe {q:Value×Value}(h:q∈eP e G td): ∃p∈td,q=(.agg (e.f p.1).toArray,G p.2):=by
 obtain⟨p,h1,A⟩:=List.mem_map.1 h;exact⟨p,h1,A.symm⟩
theorem aUn: ∀{L:List MapEntry},(L.map (·.born)).Nodup-> ∀q∈L,L.Perm (q::L.filter λx=>decide (x.born≠q.born))
 | [],_,q,h=>by cases h
 |x::L,A,q,B=>by
  rw [List.map_cons,List.nodup_cons]at A;rcases List.mem_cons.1 B with rfl|B
  ·have:L.filter (λx=>decide (x.born≠q.born))=L:=List.filter_eq_self.2 λy E=>by
    simp only [decide_eq_true_eq];exact λh=>A.1 (List.mem_map.2 ⟨y,E,h⟩)
   rw [List.filter_cons,if_neg (by simp),this]
  ·have C:x.born≠q.born:=λh=>A.1 (List.mem_map.2 ⟨q,B,h.symm⟩)
   rw [List.filter_cons,if_pos (by simpa using C)];exact(List.Perm.cons x (aUn A.2 q B)).trans (List.Perm.swap q x _)
theorem Lx_next (H:Hd O w0 w S l) (i:Nat) (hi:l[i]? =some (.tr (Rt.itr e G b r m) cs bs (td,cur))) (hx:ev ρ x= .pointer (some ⟨r,0,none⟩)):
  ∃v w',Do P ⟨d,.next x false,ty,pos,af,g⟩ ρ w v w'/\((td=[]/\v= .tuple #[.bool false]/\Hd O w0 w' S l)\/ ∃p C,td.Perm (p::C)/\v= .tuple #[.bool true,.agg (e.f p.1).toArray,G p.2]/\Hd O w0 w' S (l.set i (.tr (Rt.itr e G b r m) cs bs (C,some p)))):=by
 obtain⟨rfl,rfl,I,A,B,c0,seen,h1,h2,h3,h4,h5,h6,Y,h7,_⟩:(Rt.itr e G b r m).rd (frees O l) w cs bs (td,cur):=H.V hi;have aa: ∀q∈(leftOf I seen).toList,q∈I.toList:=λq X=>by simp [leftOf]at X⊢;exact X.1
 rcases run_next_at (P:=P) w ty r b B c0 seen I A h4 h1 h5 h6 with ⟨h0,hr⟩|⟨q,X,w1,Q,hr⟩
 ·refine⟨_,w,?_,.inl ⟨?_,rfl,H⟩⟩
  ·unfold Do;simp [execOp,hx,hr]
  ·have:(leftOf I seen).toList=[]:=by
    apply List.eq_nil_of_length_eq_zero;simpa using h0
   rw [this]at h7;have:=List.Perm.length_eq h7;simp [eP]at this;exact List.eq_nil_of_length_eq_zero this.symm
 ·obtain⟨p,hp,E⟩:=aYe (e:=e) (G:=G) (td:=td) (h7.subset (List.mem_map.2 ⟨q,X,rfl⟩));obtain⟨C,J⟩: ∃C,td.Perm (p::C):=by
   obtain⟨a,c,rfl⟩:=List.append_of_mem hp;exact⟨a++c,List.perm_middle⟩
  simp only [Prod.mk.injEq]at E;have L:w1.heap=w.heap:=by rcases Q with rfl|rfl<;>rfl
  have ab:r≠b:=by
   rintro rfl;rw [h4]at h1;cases h1
  have ai:r<w.heap.size:=(Array.getElem?_eq_some_iff.1 h4).1;have au:b<w.heap.size:=(Array.getElem?_eq_some_iff.1 h1).1;have g1: ∀j,j≠r->(ChangeMaps.setBlock w1 r (.mapIter (some b) B (seen.push q.born) A)).heap[j]? =w.heap[j]? :=by
   intro j hj;show(w1.heap.setIfInBounds r _)[j]? =_;rw [L,Array.getElem?_setIfInBounds,if_neg (λh=>hj h.symm)]
  have g2:(ChangeMaps.setBlock w1 r (.mapIter (some b) B (seen.push q.born) A)).heap[r]? =some (.mapIter (some b) B (seen.push q.born) A):=by
   show(w1.heap.setIfInBounds r _)[r]? =_;rw [L,Array.getElem?_setIfInBounds,if_pos rfl,if_pos ai]
  have ad:(ChangeMaps.setBlock w1 r (.mapIter (some b) B (seen.push q.born) A)).heap.size=w.heap.size:=by
   show(w1.heap.setIfInBounds r _).size=_;rw [L,Array.size_setIfInBounds]
  refine⟨_,ChangeMaps.setBlock w1 r (.mapIter (some b) B (seen.push q.born) A),?_,.inr ⟨p,C,J,rfl,?_⟩⟩
  ·unfold Do;rw [<-E.1,<-E.2];simp [execOp,hx,hr]
  ·refine H.turn hi ⟨?_,?_,?_,by rw [ad];exact Nat.le_refl _,λj _ hn=>g1 j λh=>hn (by simp [Th.blocks,h])⟩ (λ_=>⟨rfl,rfl,I,A,B,A,seen.push q.born,?_,h2,h3,g2,h5,Y,Y,?_,?_⟩) (λj hj=>⟨.inl (by simpa [Th.blocks]using hj),?_⟩) (by simp [Th.blocks];exact λh=>ab h.symm)
   ·rcases Q with rfl|rfl<;>rfl
   ·rcases Q with rfl|rfl<;>rfl
   ·rcases Q with rfl|rfl<;>rfl
   ·rw [g1 b λh=>ab h.symm];exact h1
   ·have e1:(leftOf I (seen.push q.born)).toList=(leftOf I seen).toList.filter λx=>decide (x.born≠q.born):=by
     simp only [leftOf,Array.toList_filter,List.filter_filter]
     congr 1
     funext x
     simp only [Array.contains_push]
     cases h9:seen.contains x.born<;>by_cases aj:x.born=q.born<;>simp [aj]
    have e2:(leftOf I seen).toList.Perm (q::(leftOf I (seen.push q.born)).toList):=by
     rw [e1];refine aUn ?_ q X;have:((leftOf I seen).toList.map (·.born)).Sublist (I.toList.map (·.born)):=by
      simp only [leftOf,Array.toList_filter];exact List.Sublist.map _ List.filter_sublist
     exact this.nodup h3.2
    have e3:((q.key,q.val)::((leftOf I (seen.push q.born)).toList.map λe=>(e.key,e.val))).Perm ((q.key,q.val)::eP e G C):=by
     refine((e2.map λe=>(e.key,e.val)).symm.trans h7).trans ?_;have:=(J.map λp=>(Value.agg (e.f p.1).toArray,G p.2));simp only [List.map_cons,<-E.1,<-E.2]at this;exact this
    exact e3.cons_inv
   ·intro _ ak;obtain rfl:=oI ak;exact⟨rfl,q,aa q X,seen,rfl,by rw [E.1,E.2]⟩
   ·rw [ad];simp only [Th.blocks,List.mem_cons,List.not_mem_nil,or_false]at hj;rcases hj with rfl|rfl<;>assumption
theorem Do_entry {p:κ×ν}{F:Nat->Prop}(h:Th.holds F w (.tr (Rt.itr e G b r m) cs bs (td,some p)))(E:ev ρ x= .pointer (some ⟨r,0,none⟩)):Do P ⟨d,.entry x,ty,pos,af,g⟩ ρ w (.tuple #[.agg (e.f p.1).toArray,G p.2]) w:=by
 obtain⟨rfl,rfl,H,_,A,c0,seen,h1,_,I,J,_,_,_,_,Q⟩:(Rt.itr e G b r m).rd F w cs bs (td,some p):=h;obtain⟨rfl,q,X,s,rfl,B⟩:=Q p rfl;simp only [Prod.mk.injEq]at B;have Y:=run_entry_at (P:=P) w r b A s H c0 q J h1 X I.2;unfold Do;rw [<-B.1,<-B.2];simp [execOp,E,Y]
theorem Hd.unrange (H:Hd O w0 w S l) (i:Nat) (hi:l[i]? =some (.tr (Rt.itr e G b r m) cs bs (td,cur))):Hd O w0 w S (l.set i (.mp b (eP e G m))):=by
 obtain⟨rfl,rfl,C,h,_,c0,seen,h1,E,I,-⟩:(Rt.itr e G b r m).rd (frees O l) w cs bs (td,cur):=H.V hi;refine H.turn hi (Only.refl _ w) (λ_=>⟨C,h,h1,E,I⟩) (λj B=>⟨.inl ?_,?_⟩) (by simp [Th.blocks]);obtain rfl:j=b:=by simpa [Th.blocks]using B
 simp [Th.blocks];obtain rfl:j=b:=by simpa [Th.blocks]using B
 exact(Array.getElem?_eq_some_iff.1 h1).1
end
def aUd {κ ν:Type}(n:Nat)(m:List (κ×ν)):Option (List κ):=if m.length<=maxLen/\m.length*n<=140737488355328 then some (m.map Prod.fst)else none
theorem aWp {κ ν:Type}{n:Nat}{m:List (κ×ν)}{l:List κ}(h:aUd n m=some l):l=m.map Prod.fst/\m.length<=maxLen/\m.length*n<=140737488355328:=by
 unfold aUd at h;split at h;rename_i c;exact⟨(oI h).symm,c⟩;cases h
section
variable {κ ν:Type}{n:Nat}{m td t2:List (κ×ν)}{dn:List κ}{p:κ×ν}
theorem keys_app (E:m.length<=maxLen/\m.length*n<=140737488355328)(h:(dn++td.map Prod.fst).Perm (m.map Prod.fst))(A:td.Perm (p::t2)):app' n dn [p.1]=some (dn++[p.1]):=by
 have h1:=h.length_eq;have B:=A.length_eq;rw [List.length_append,List.length_map,List.length_map]at h1;rw [List.length_cons]at B;have C:dn.length+1<=m.length:=by omega
 have H:(dn.length+1)*n<=m.length*n:=Nat.mul_le_mul_right _ C;unfold app';rw [if_pos];rw [List.length_singleton];exact⟨by omega,by omega⟩
theorem keys_perm (h:(dn++td.map Prod.fst).Perm (m.map Prod.fst))(A:td.Perm (p::t2)):((dn++[p.1])++t2.map Prod.fst).Perm (m.map Prod.fst):=by
 rw [List.append_assoc];exact(List.Perm.append_left dn (A.map Prod.fst).symm).trans h
theorem keys_len (h:td.Perm (p::t2)):t2.length<td.length:=by
 have A:=h.length_eq;rw [List.length_cons]at A;omega
end
section
variable {α:Type}{f g:α->Int}
def ltP (f g:α->Int)(x y:α):Bool:=decide (f x<f y)||(decide (f x=f y)&&decide (g x<g y))
def Faf (f g:α->Int)(l:List α):Option (List α):=if l.length<4611686018427387904 then some (l.mergeSort λx y=> !ltP f g y x)else none
theorem aKx {x y:α}:ltP f g x y=false↔f y<f x\/(f y=f x/\g y<=g x):=by
 unfold ltP;simp only [Bool.or_eq_false_iff,Bool.and_eq_false_iff,decide_eq_false_iff_not];omega
theorem ltP_t {x y:α}:ltP f g x y=true↔f x<f y\/(f x=f y/\g x<g y):=by
 unfold ltP;simp only [Bool.or_eq_true,Bool.and_eq_true,decide_eq_true_eq]
theorem aDq (l:List α):(l.mergeSort λx y=> !ltP f g y x).Pairwise λx y=>ltP f g y x=false:=by
 have h:=List.pairwise_mergeSort (le:=λx y=> !ltP f g y x) (λa b c h1 A=>by
  simp only [Bool.not_eq_true']at h1 A⊢;rw [aKx]at h1 A⊢;omega) (λa b=>by
  cases h:ltP f g b a with
  |false=>rfl
  |true=>
   rw [ltP_t]at h;have:ltP f g a b=false:=by rw [aKx];omega
   rw [this];rfl) l
 exact h.imp λh=>by simpa using h
theorem Fld (hi: ∀x y:α,f x=f y->g x=g y->x=y){l m:List α}(h:l.Perm m):Faf f g l=Faf f g m:=by
 unfold Faf;rw [h.length_eq];have e:(l.mergeSort λx y=> !ltP f g y x)=(m.mergeSort λx y=> !ltP f g y x):=by
  refine List.Perm.eq_of_pairwise (le:=λx y=>ltP f g y x=false) ?_ (aDq l) (aDq m) ((List.mergeSort_perm l _).trans (h.trans (List.mergeSort_perm m _).symm));intro a b _ _ h1 A;rw [aKx]at h1 A;exact hi a b (by omega) (by omega)
 rw [e]
end
section
variable {P:Program}{N:Nat}{ops:Array Oper}{K:Env->World->Prop}{fuel k:Nat}{listed:Array Bool}{ρ:Env}{w:World}{d:Nat}{op:Op}{ty:TypeId}{pos:String}{af:Array Edge}{g:Option (Nat×Bool)}{v:Value}
def bAi (N:Nat)(K:Env->World->Prop):Exit->Act->World->Prop:=λe a w=>e= .normal/\ ∃ρ,Fits N a ρ/\K ρ w
def AL (P:Program)(N:Nat)(ops:Array Oper)(K:Env->World->Prop)(fuel:Nat)(listed:Array Bool)(ρ:Env)(w:World):Prop:=
 ∀a,Fits N a ρ->wpAny P .any ops (bAi N K) fuel listed a w
def AO (P:Program)(N:Nat)(ops:Array Oper)(K:Env->World->Prop)(fuel:Nat)(listed:Array Bool)(i:Nat)(ρ:Env)(w:World):Prop:=
 ∀a,Fits N a ρ->wpOp P ops (bAi N K) i (wpAny P .any ops (bAi N K) fuel (listed.setIfInBounds i true)) a w
theorem WP_any {id:Nat}{l:List Oper}{Q:Exit->Env->World->Prop} (hm:P.follows .mixedOrders=true) (h: ∀w',fK w w'->AL P N l.toArray (λρ w=>Q .normal ρ w) l.length (Array.replicate l.length false) ρ w'):WP P N (.region id l.toArray true) Q ρ w:=by
 intro a B;refine wp_mono (wp_region_any (Q:=bAi N λρ w=>Q .normal ρ w) hm ?_) ?_
 ·have:=h {w with drawn:=w.drawn+1} ((Below.refl _ _).drew) a B;simpa using this
 ·rintro e _ w' ⟨rfl,A,C,E⟩;exact⟨A,C,E⟩
theorem jJ {i:Nat}(hi:ops[i]? =some ⟨some d,op,ty,pos,af,g⟩)(B:Region.noSelect ops=true)(C:Region.free .any ops listed i=true)(E:(Region.ready .any ops listed).contains i=true)(H:fO N ops ρ ⟨some d,op,ty,pos,af,g⟩=true)(hd:Nat.blt d N=true)
    (h: ∀w',Do P ⟨some d,op,ty,pos,af,g⟩ ρ w' v w')(n:AL P N ops K fuel (listed.setIfInBounds i true) (upd ρ d v) w):AL P N ops K (fuel+1) listed ρ w:=by
 intro a A;refine wpAny_take hi B C E (λc a w I=>?_) (.inl ⟨by rw [A.wanted];exact H,λw'=>by rw [A.eval];exact h w'⟩) (n _ (A.put (xR hd) v));cases I.1
theorem jX (rs:List Nat)(B:Region.ready .any ops listed=rs)(A:rs≠[])(h: ∀i∈rs,AO P N ops K fuel listed i ρ w):AL P N ops K (fuel+1) listed ρ w:=
 λa C=>wpAny_all B A λi hi=>h i hi a C
theorem aCi (A:Region.ready .any ops listed=[])(h:K ρ w):AL P N ops K fuel listed ρ w:=λ_ B=>wpAny_done A ⟨rfl,ρ,B,h⟩ fuel
theorem AO_ex {i:Nat}{R:Value->World->Prop}(hi:ops[i]? =some ⟨some d,op,ty,pos,af,g⟩)(B:fO N ops ρ ⟨some d,op,ty,pos,af,g⟩=true)(hd:Nat.blt d N=true)(h: ∃v w',Do P ⟨some d,op,ty,pos,af,g⟩ ρ w v w'/\R v w')
    (n: ∀v w',R v w'->AL P N ops K fuel (listed.setIfInBounds i true) (upd ρ d v) w'):AO P N ops K fuel listed i ρ w:=by
 obtain⟨v,w',h1,C⟩:=h;intro a A;unfold wpOp;simp only [hi];rw [A.wanted,B,if_pos rfl];refine .inl ?_;unfold Oper.wp;rw [A.eval,show(execOp (ev ρ) _).run P w=_ from h1];exact n v w' C _ (A.put (xR hd) v)
theorem aNk {i:Nat}(hi:ops[i]? =some ⟨some d,op,ty,pos,af,g⟩)(A:fO N ops ρ ⟨some d,op,ty,pos,af,g⟩=true)(hd:Nat.blt d N=true)(h:Do P ⟨some d,op,ty,pos,af,g⟩ ρ w v w)
  (n:AL P N ops K fuel (listed.setIfInBounds i true) (upd ρ d v) w):AO P N ops K fuel listed i ρ w:=
 AO_ex (R:=λu w'=>u=v/\w'=w) hi A hd ⟨_,_,h,rfl,rfl⟩ (by rintro _ _ ⟨rfl,rfl⟩;exact n)
theorem nT {i:Nat}{R:World->Prop}(hi:ops[i]? =some ⟨none,op,ty,pos,af,g⟩)(B:fO N ops ρ ⟨none,op,ty,pos,af,g⟩=true)(h: ∃w',DoU P ⟨none,op,ty,pos,af,g⟩ ρ w w'/\R w')
    (n: ∀w',R w'->AL P N ops K fuel (listed.setIfInBounds i true) ρ w'):AO P N ops K fuel listed i ρ w:=by
 obtain⟨w',h1,C⟩:=h;intro a A;unfold wpOp;simp only [hi];rw [A.wanted,B,if_pos rfl];refine .inl ?_;unfold Oper.wp;rw [A.eval,show(execOp (ev ρ) _).run P w=_ from h1];exact n w' C _ A
theorem all1 {p:Nat->Prop}{a:Nat}(h:p a): ∀i∈ [a],p i:=by intro i hi;obtain rfl:=mS.1 hi;exact h
theorem allC {p:Nat->Prop}{a:Nat}{l:List Nat}(h:p a)(t: ∀i∈l,p i): ∀i∈a::l,p i:=by
 intro i hi;rcases List.mem_cons.1 hi with rfl|hi
 ·exact h
 ·exact t i hi
end
theorem tH {κ ν:Type} [DecidableEq κ] {l l':List (κ×ν)} (h:l.Perm l') (B:(l.map Prod.fst).Nodup) (k:κ) (z:ν):aI l k z=aI l' k z:=by
 have C: ∀{l:List (κ×ν)}{p:κ×ν},(l.map Prod.fst).Nodup->p∈l->p.1=k->aI l k z=p.2:=by
  intro l
  induction l with
  |nil=>intro p _ A;cases A
  |cons q l H=>
   intro p B A hk;rw [List.map_cons,List.nodup_cons]at B;unfold aI;rw [List.find?_cons];rcases List.mem_cons.1 A with rfl|A
   ·simp [hk]
   ·have I: ¬q.1=k:=λe=>B.1 (List.mem_map.2 ⟨p,A,by rw [hk,e]⟩)
    simp only [I,decide_false];exact H B.2 A hk
 by_cases A: ∃p∈l,p.1=k
 ·obtain⟨p,h1,E⟩:=A;rw [C B h1 E,C ((h.map Prod.fst).nodup_iff.1 B) (h.subset h1) E]
 ·have e: ∀{m:List (κ×ν)},(¬ ∃p∈m,p.1=k)->aI m k z=z:=by
   intro m hm;unfold aI;have:m.find? (λp=>decide (p.1=k))=none:=List.find?_eq_none.2 λp J L=>hm ⟨p,J,of_decide_eq_true L⟩
   rw [this]
  rw [e A,e λ⟨p,h1,E⟩=>A ⟨p,h.symm.subset h1,E⟩]
end Go.Lf
