/- Laws that the claim stands on; no condition beyond those stated. -/
import Derived.Test.YthgccglopkgghaaGreatDoorObB
namespace Go.MxM
open Go.OB
open Go.RowKit

inductive Kd where
 |pure|fcall|read|new|eff
 |mk (B:Nat)
inductive Mk where
 |ptr
 |sl (n:Nat)
def Mk.val:Mk->Nat->Value
 | .ptr,b=> .pointer (some ⟨b,0,none⟩)
 | .sl n,b=> .slice (some ⟨b,0,none⟩) n n
theorem Mk.inj {m a:Mk}{b:Nat}(h:m.val b=a.val b):m=a:=by
 cases m<;>cases a<;>simp [Mk.val]at h⊢;exact h
abbrev Mm:=Option (Nat->Prop)
def Kd.isMk:Kd->Bool
 | .mk _=>true|_=>false
theorem wW {w:World}{cs a:List Value}{T c:TypeId}(h:w.alloc (.cells cs.toArray T)=w.alloc (.cells a.toArray c)):cs=a/\T=c:=by
 have e:=(Al.mk' w cs T).blk;rw [h]at e;have b:=(Al.mk' w a c).blk;unfold Blk at e b;rw [e]at b;simp at b;exact b
theorem Blk.Z {w w':World}{b:Nat}{cs:List Value}{T:TypeId}(h:Blk w b cs T)(a:gZ w w'):Blk w' b cs T:=h.only (Only.of_below a) (by simp)
def Kd.isPure:Kd->Bool
 | .pure=>true|_=>false
def Kd.isFcall:Kd->Bool
 | .fcall=>true|_=>false
def Kd.isRead:Kd->Bool
 | .read=>true|_=>false
def Kd.isNew:Kd->Bool
 | .new=>true|_=>false
def kF (P:Program)(I:World->Prop)(ops:Array Oper)(o:Oper)(v:Value)(a:Act):Prop:=
 (Region.wanted o (yielded ops a.tmps)=true/\ ∀w',I w'->(execOp a.eval o).run P w'= .ok (.value v) w')\/(Region.wanted o (yielded ops a.tmps)=false/\v=undef)
def mV (P:Program)(I:World->Prop)(ops:Array Oper)(o:Oper)(v:Value)(a:Act):Prop:=
 (Region.wanted o (yielded ops a.tmps)=true/\ ∀w',I w'->kZ P w' v ((execOp a.eval o).run P w'))\/(Region.wanted o (yielded ops a.tmps)=false/\v=undef)

def dB (M:Mm)(w:World):Prop:= ∀A,M=some A-> ∀x,A x->x<w.heap.size
theorem dB.Z {M:Mm}{w w':World}(h:dB M w)(a:gZ w w'):dB M w':=λA e x b=>Nat.lt_of_lt_of_le (h A e x b) a.size
theorem dB.no {w:World}:dB none w:=λ_ e=>by cases e
theorem dB.mk {A:Nat->Prop}{w w':World}{b:Nat}{cs:List Value}{T:TypeId}(h:dB (some A) w)(c:gZ w w')(f:Blk w' b cs T):dB (some λx=>x=b\/A x) w':=by
 intro _ e x a
 cases e
 rcases a with rfl|a
 ·exact(Array.getElem?_eq_some_iff.1 f).1
 ·exact(h.Z c) A rfl x a
theorem dB.new {A:Nat->Prop}{w:World}(h:dB (some A) w): ¬A w.heap.size:=λa=>Nat.lt_irrefl _ (h A rfl _ a)

def xOp (P:Program)(I:World->Prop)(ops:Array Oper)(kd:Nat->Kd)(i:Nat)(K:Mm->Act->World->Prop)(M:Mm)(a:Act)(w:World):Prop:=
  match ops[i]? with
  |none=>False
  |some o=>match kd i with
    | .pure=> ∃v,kF P I ops o v a/\K M (a.put o.dst v) w
    | .fcall=> ∃v,mV P I ops o v a/\ ∀w',gZ w w'->K M (a.put o.dst v) w'
    | .read=> ∃v,rC P ops w o v a/\ ∀w',gZ w w'->K M (a.put o.dst v) w'
    | .new=>(Region.wanted o (yielded ops a.tmps)=true/\
        ((∃v w',(execOp a.eval o).run P w= .ok (.value v) w'/\gZ w w'/\ ∀c,gZ w' c->K M (a.put o.dst v) c)\/
         (∃f args,(execOp a.eval o).run P w= .ok (.enter f args) w/\Calls P f args w λe w'=> ∃v,e= .returned v/\gZ w w'/\ ∀c,gZ w' c->K M (a.put o.dst v) c)))\/
        (Region.wanted o (yielded ops a.tmps)=false/\ ∀c,gZ w c->K M (a.put o.dst undef) c)
    | .eff=>(Region.wanted o (yielded ops a.tmps)=true/\
        ((∃v w',(execOp a.eval o).run P w= .ok (.value v) w'/\I w'/\ ∃h,dB h w'/\ ∀c,gZ w' c->K h (a.put o.dst v) c)\/(∃w',(execOp a.eval o).run P w= .ok .skip w'/\I w'/\ ∃h,dB h w'/\ ∀c,gZ w' c->K h (a.put o.dst undef) c)\/
         (∃f args,(execOp a.eval o).run P w= .ok (.enter f args) w/\Calls P f args w λe w'=> ∃v,e= .returned v/\I w'/\ ∃h,dB h w'/\ ∀c,gZ w' c->K h (a.put o.dst v) c)))\/
        (Region.wanted o (yielded ops a.tmps)=false/\ ∀c,gZ w c->K M (a.put o.dst undef) c)
    | .mk B=>(Region.wanted o (yielded ops a.tmps)=true/\ ∃(A:Nat->Prop) (m:Mk) (cs:List Value) (T:TypeId),M=some A/\(∀w',I w'->(execOp a.eval o).run P w'= .ok (.value (m.val w'.heap.size)) (w'.alloc (.cells cs.toArray T)))/\
        ∀b c,gZ w c->B<=b-> ¬A b->Blk c b cs T->K (some λx=>x=b\/A x) (a.put o.dst (m.val b)) c)\/
        (Region.wanted o (yielded ops a.tmps)=false/\ ∀c,gZ w c->K M (a.put o.dst undef) c)

def fU (P:Program)(I:World->Prop)(ops:Array Oper)(kd:Nat->Kd)(Q:Mm->Act->World->Prop):List Nat->Mm->Act->World->Prop
 | [],M,a,w=>Q M a w
 |i::l,M,a,w=>xOp P I ops kd i (fU P I ops kd Q l) M a w

section
variable {P:Program}{I:World->Prop}{ops:Array Oper}{kd:Nat->Kd}{Q:Mm->Act->World->Prop}

theorem mM {i:Nat}{K x:Mm->Act->World->Prop}{M:Mm}{a:Act}{w:World} (h: ∀o M v w,ops[i]? =some o->K M (a.put o.dst v) w->x M (a.put o.dst v) w) (hh:xOp P I ops kd i K M a w):xOp P I ops kd i x M a w:=by
 unfold xOp at *
 cases ho:ops[i]? with
 |none=>simp only [ho]at hh
 |some o=>
  have h:=λM v w=>h o M v w ho
  simp only [ho]at hh⊢
  cases s:kd i<;>simp only [s]at hh⊢
  ·obtain⟨v,l,n⟩:=hh;exact⟨v,l,h _ _ _ n⟩
  ·obtain⟨v,l,n⟩:=hh;exact⟨v,l,λw' j=>h _ _ _ (n w' j)⟩
  ·obtain⟨v,l,n⟩:=hh;exact⟨v,l,λw' j=>h _ _ _ (n w' j)⟩
  ·rcases hh with ⟨p,hh⟩|⟨p,hh⟩
   rotate_left
   ·exact .inr ⟨p,λc j=>h _ _ _ (hh c j)⟩
   refine .inl ⟨p,?_⟩;rcases hh with ⟨v,w',l,r,n⟩|⟨f,args,l,n⟩
   ·exact .inl ⟨v,w',l,r,λc j=>h _ _ _ (n c j)⟩
   ·exact .inr ⟨f,args,l,n.mono λe w' ⟨v,u,r,s⟩=>⟨v,u,r,λc j=>h _ _ _ (s c j)⟩⟩
  ·rcases hh with ⟨p,hh⟩|⟨p,hh⟩
   rotate_left
   ·exact .inr ⟨p,λc j=>h _ _ _ (hh c j)⟩
   refine .inl ⟨p,?_⟩;rcases hh with ⟨v,w',l,r,t,q,n⟩|⟨w',l,r,t,q,n⟩|⟨f,args,l,n⟩
   ·exact .inl ⟨v,w',l,r,t,q,λc j=>h _ _ _ (n c j)⟩
   ·exact .inr (.inl ⟨w',l,r,t,q,λc j=>h _ _ _ (n c j)⟩)
   ·exact .inr (.inr ⟨f,args,l,n.mono λe w' ⟨v,u,r,t,q,s⟩=>⟨v,u,r,t,q,λc j=>h _ _ _ (s c j)⟩⟩)
  ·rcases hh with ⟨p,A,m,cs,T,y,l,n⟩|⟨p,hh⟩
   ·exact .inl ⟨p,A,m,cs,T,y,l,λb c z B C D=>h _ _ _ (n b c z B C D)⟩
   ·exact .inr ⟨p,λc j=>h _ _ _ (hh c j)⟩

theorem mY {i:Nat}{K b:Mm->Act->World->Prop}(h: ∀M a w,K M a w->b M a w){M:Mm}{a:Act}{w:World}(hh:xOp P I ops kd i K M a w):xOp P I ops kd i b M a w:=mM (λ_ _ _ _ _=>h _ _ _) hh

theorem vM {i:Nat}{K:Mm->Act->World->Prop}{M:Mm}{a:Act}{w:World} (q: ∀w w',I w->gZ w w'->I w') (s:I w) (t:dB M w) (hh:xOp P I ops kd i K M a w):xOp P I ops kd i (λM a w=>I w/\dB M w/\K M a w) M a w:=by
 unfold xOp at *
 cases ho:ops[i]? with
 |none=>simp only [ho]at hh
 |some _=>
  simp only [ho]at hh⊢
  cases u:kd i<;>simp only [u]at hh⊢
  ·obtain⟨v,j,l⟩:=hh;exact⟨v,j,s,t,l⟩
  ·obtain⟨v,j,l⟩:=hh;exact⟨v,j,λw' c=>⟨q _ _ s c,t.Z c,l w' c⟩⟩
  ·obtain⟨v,j,l⟩:=hh;exact⟨v,j,λw' c=>⟨q _ _ s c,t.Z c,l w' c⟩⟩
  ·rcases hh with ⟨r,hh⟩|⟨r,hh⟩
   rotate_left
   ·exact .inr ⟨r,λh c=>⟨q _ _ s c,t.Z c,hh h c⟩⟩
   refine .inl ⟨r,?_⟩;rcases hh with ⟨v,w',j,p,l⟩|⟨f,args,j,l⟩
   ·exact .inl ⟨v,w',j,p,λh c=>⟨q _ _ (q _ _ s p) c,(t.Z p).Z c,l h c⟩⟩
   ·exact .inr ⟨f,args,j,l.mono λe w' ⟨v,y,p,u⟩=>⟨v,y,p,λh c=>⟨q _ _ (q _ _ s p) c,(t.Z p).Z c,u h c⟩⟩⟩
  ·rcases hh with ⟨r,hh⟩|⟨r,hh⟩
   rotate_left
   ·exact .inr ⟨r,λh c=>⟨q _ _ s c,t.Z c,hh h c⟩⟩
   refine .inl ⟨r,?_⟩;rcases hh with ⟨v,w',j,p,x,n,l⟩|⟨w',j,p,x,n,l⟩|⟨f,args,j,l⟩
   ·exact .inl ⟨v,w',j,p,x,n,λh c=>⟨q _ _ p c,n.Z c,l h c⟩⟩
   ·exact .inr (.inl ⟨w',j,p,x,n,λh c=>⟨q _ _ p c,n.Z c,l h c⟩⟩)
   ·exact .inr (.inr ⟨f,args,j,l.mono λe w' ⟨v,y,p,x,n,u⟩=>⟨v,y,p,x,n,λh c=>⟨q _ _ p c,n.Z c,u h c⟩⟩⟩)
  ·rcases hh with ⟨r,A,m,cs,T,C,j,l⟩|⟨r,hh⟩
   ·subst C;exact .inl ⟨r,A,m,cs,T,rfl,j,λb h z D E B=>⟨q _ _ s z,t.mk z B,l b h z D E B⟩⟩
   ·exact .inr ⟨r,λh c=>⟨q _ _ s c,t.Z c,hh h c⟩⟩
theorem jP {i:Nat}{o:Oper} (h:ops[i]? =some o) {K:Act->World->Prop}{Qx:Exit->Act->World->Prop}{a:Act}{w:World}{v:Value}
  (j:(Region.wanted o (yielded ops a.tmps)=true/\kZ P w v ((execOp a.eval o).run P w))\/(Region.wanted o (yielded ops a.tmps)=false/\v=undef)) (b: ∀w',gZ w w'->K (a.put o.dst v) w'):wpOp P ops Qx i K a w:=by
 unfold wpOp;simp only [h];rcases j with ⟨c,this⟩|⟨c,rfl⟩
 ·rw [if_pos c];refine .inl ?_;unfold Oper.wp;generalize (execOp a.eval o).run P w=r at this
  cases r with
  |ok n w'=>
   cases n<;>simp only [kZ]at this<;>simp only [Oper.upon]
   case value u=>obtain⟨rfl,rfl⟩:=this;exact b _ (gZ.refl _)
   case skip=>obtain⟨rfl,rfl⟩:=this;exact b _ (gZ.refl _)
   case enter f args=>
    obtain⟨rfl,l⟩:=this;exact l.mono λ_ _ ⟨p,q⟩=>by subst p;exact b _ q
  |halt _ w'=>simp only [kZ]at this
 ·rw [if_neg (by rw [c];exact Bool.false_ne_true)];exact b _ (gZ.refl _)
theorem kT (w:World)(o:Obj):gZ w (w.alloc o):=(Below.refl _ w).alloc (Nat.le_refl _) _
theorem nD {i:Nat}{K:Mm->Act->World->Prop}{Qx:Exit->Act->World->Prop}{M:Mm}{a:Act}{w:World} (E: ∀i B,kd i= .mk B-> ∀w,I w->B<=w.heap.size) (x: ∀w w',I w->gZ w w'->I w') (b:I w) (c:dB M w) (h:xOp P I ops kd i K M a w):wpOp P ops Qx i (λa w=> ∃M,I w/\dB M w/\K M a w) a w:=by
 unfold xOp at h
 cases ho:ops[i]? with
 |none=>simp only [ho]at h
 |some _=>
  simp only [ho]at h
  cases u:kd i<;>simp only [u]at h
  ·obtain⟨v,y,t⟩:=h;unfold wpOp;simp only [ho];rcases y with ⟨s,z⟩|⟨s,rfl⟩
   ·rw [if_pos s];refine .inl ?_;unfold Oper.wp;rw [z w b];exact⟨M,b,c,t⟩
   ·rw [if_neg (by rw [s];exact Bool.false_ne_true)];exact⟨M,b,c,t⟩
  ·obtain⟨v,y,t⟩:=h;exact jP ho (y.imp (λ⟨s,z⟩=>⟨s,z w b⟩) id) λw' j=>⟨M,x _ _ b j,c.Z j,t w' j⟩
  ·obtain⟨v,y,t⟩:=h;exact jP ho (y.imp (λ⟨s,z⟩=>⟨s,z w (gZ.refl w)⟩) id) λw' j=>⟨M,x _ _ b j,c.Z j,t w' j⟩
  ·unfold wpOp;simp only [ho];rcases h with ⟨l,h⟩|⟨l,h⟩
   rotate_left
   ·rw [if_neg (by rw [l];exact Bool.false_ne_true)];exact⟨M,b,c,h _ (gZ.refl _)⟩
   rw [if_pos l];refine .inl ?_;unfold Oper.wp;rcases h with ⟨v,w',n,p,q⟩|⟨f,args,n,q⟩
   ·rw [n];exact⟨M,x _ _ b p,c.Z p,q _ (gZ.refl _)⟩
   ·rw [n];exact q.mono λe w' ⟨v,D,p,u⟩=>by subst D;exact⟨M,x _ _ b p,c.Z p,u _ (gZ.refl _)⟩
  ·unfold wpOp;simp only [ho];rcases h with ⟨l,h⟩|⟨l,h⟩
   rotate_left
   ·rw [if_neg (by rw [l];exact Bool.false_ne_true)];exact⟨M,b,c,h _ (gZ.refl _)⟩
   rw [if_pos l];refine .inl ?_;unfold Oper.wp;rcases h with ⟨v,w',n,p,C,r,q⟩|⟨w',n,p,C,r,q⟩|⟨f,args,n,q⟩
   ·rw [n];exact⟨C,p,r,q _ (gZ.refl _)⟩
   ·rw [n];exact⟨C,p,r,q _ (gZ.refl _)⟩
   ·rw [n];exact q.mono λe w' ⟨v,D,p,C,r,u⟩=>by subst D;exact⟨C,p,r,u _ (gZ.refl _)⟩
  ·unfold wpOp;simp only [ho];rcases h with ⟨l,_,_,cs,T,rfl,n,q⟩|⟨l,h⟩
   ·rw [if_pos l];refine .inl ?_;unfold Oper.wp;rw [n w b];have j:=kT w (.cells cs.toArray T);exact⟨_,x _ _ b j,c.mk j (Al.mk' w cs T).blk,q _ _ j (E i _ u w b) c.new (Al.mk' w cs T).blk⟩
   ·rw [if_neg (by rw [l];exact Bool.false_ne_true)];exact⟨M,b,c,h _ (gZ.refl _)⟩

theorem kF.of_same {o:Oper}{v:Value}{a b:Act}(c:kF P I ops o v a)(e:execOp b.eval o=execOp a.eval o)
    (f:Region.wanted o (yielded ops b.tmps)=Region.wanted o (yielded ops a.tmps)):kF P I ops o v b:=by
 unfold kF at *;rw [e,f];exact c
theorem mV.of_same {o:Oper}{v:Value}{a b:Act}(c:mV P I ops o v a)(e:execOp b.eval o=execOp a.eval o)
    (f:Region.wanted o (yielded ops b.tmps)=Region.wanted o (yielded ops a.tmps)):mV P I ops o v b:=by
 unfold mV at *;rw [e,f];exact c
def jT (ops:Array Oper)(kd:Nat->Kd)(i j:Nat):Bool:=
 match ops[i]?,ops[j]? with
 |some a,some b=>a.apart ops b&&b.apart ops a&&((kd i).isPure||(kd j).isPure||(kd i).isFcall||((kd i).isRead&&((kd j).isFcall||(kd j).isRead||(kd j).isNew||(kd j).isMk))||((kd i).isMk&&(kd j).isMk))
 |_,_=>false

theorem aDz {i:Nat}{q x:Oper} (hi:ops[i]? =some q) (E:q.apart ops x=true) (F: ∀cs b,q.op≠ .select cs b) {u:Value}
  {K:Mm->Act->World->Prop}{M:Mm}{a:Act}{w:World} (h:xOp P I ops kd i (λM G w'=>K M (G.put x.dst u) w') M a w):xOp P I ops kd i K M (a.put x.dst u) w:=by
 obtain⟨n,l,o⟩:=Oper.apart_spec E;have t:execOp (a.put x.dst u).eval q=execOp a.eval q:=execOp_put q F a x.dst u o;have y:Region.wanted q (yielded ops (a.put x.dst u).tmps)=Region.wanted q (yielded ops a.tmps):=wanted_put q a x.dst u o;have p: ∀v,(a.put x.dst u).put q.dst v=(a.put q.dst v).put x.dst u:=λv=>(Act.put_comm a v u l).symm
 unfold xOp at *
 simp only [hi]at h⊢
 cases C:kd i<;>simp only [C]at h⊢
 ·obtain⟨v,z,B⟩:=h;exact⟨v,z.of_same t y,by rw [p];exact B⟩
 ·obtain⟨v,z,B⟩:=h;exact⟨v,z.of_same t y,λw' j=>by rw [p];exact B w' j⟩
 ·obtain⟨v,z,B⟩:=h;exact⟨v,z.of_same t y,λw' j=>by rw [p];exact B w' j⟩
 ·rw [t,y];rcases h with ⟨r,h⟩|⟨r,h⟩
  rotate_left
  ·exact .inr ⟨r,λc j=>by rw [p];exact h c j⟩
  refine .inl ⟨r,?_⟩;rcases h with ⟨v,w',n,o,l⟩|⟨f,args,n,l⟩
  ·exact .inl ⟨v,w',n,o,λc j=>by rw [p];exact l c j⟩
  ·exact .inr ⟨f,args,n,l.mono λe w' ⟨v,t,o,C⟩=>⟨v,t,o,λc j=>by rw [p];exact C c j⟩⟩
 ·rw [t,y];rcases h with ⟨r,h⟩|⟨r,h⟩
  rotate_left
  ·exact .inr ⟨r,λc j=>by rw [p];exact h c j⟩
  refine .inl ⟨r,?_⟩;rcases h with ⟨v,w',n,o,D,s,l⟩|⟨w',n,o,D,s,l⟩|⟨f,args,n,l⟩
  ·exact .inl ⟨v,w',n,o,D,s,λc j=>by rw [p];exact l c j⟩
  ·exact .inr (.inl ⟨w',n,o,D,s,λc j=>by rw [p];exact l c j⟩)
  ·exact .inr (.inr ⟨f,args,n,l.mono λe w' ⟨v,t,o,D,s,C⟩=>⟨v,t,o,D,s,λc j=>by rw [p];exact C c j⟩⟩)
 ·rw [t,y];rcases h with ⟨r,A,m,cs,T,H,n,l⟩|⟨r,h⟩
  ·exact .inl ⟨r,A,m,cs,T,H,n,λb c J L O R=>by rw [p];exact l b c J L O R⟩
  ·exact .inr ⟨r,λc j=>by rw [p];exact h c j⟩
theorem jK {i:Nat}{q x:Oper} (hi:ops[i]? =some q) (E:q.apart ops x=true) (F: ∀cs b,q.op≠ .select cs b) {u:Value}
  {K:Mm->Act->World->Prop}{M:Mm}{a:Act}{w:World} (h:xOp P I ops kd i K M (a.put x.dst u) w):xOp P I ops kd i (λM G w'=>K M (G.put x.dst u) w') M a w:=by
 obtain⟨n,l,o⟩:=Oper.apart_spec E;have t:execOp (a.put x.dst u).eval q=execOp a.eval q:=execOp_put q F a x.dst u o;have y:Region.wanted q (yielded ops (a.put x.dst u).tmps)=Region.wanted q (yielded ops a.tmps):=wanted_put q a x.dst u o;have p: ∀v,(a.put x.dst u).put q.dst v=(a.put q.dst v).put x.dst u:=λv=>(Act.put_comm a v u l).symm
 unfold xOp at *
 simp only [hi]at h⊢
 cases C:kd i<;>simp only [C]at h⊢
 ·obtain⟨v,z,B⟩:=h;exact⟨v,z.of_same t.symm y.symm,by rw [<-p];exact B⟩
 ·obtain⟨v,z,B⟩:=h;exact⟨v,z.of_same t.symm y.symm,λw' j=>by rw [<-p];exact B w' j⟩
 ·obtain⟨v,z,B⟩:=h;exact⟨v,z.of_same t.symm y.symm,λw' j=>by rw [<-p];exact B w' j⟩
 ·rw [t,y]at h;rcases h with ⟨r,h⟩|⟨r,h⟩
  rotate_left
  ·exact .inr ⟨r,λc j=>by rw [<-p];exact h c j⟩
  refine .inl ⟨r,?_⟩;rcases h with ⟨v,w',n,o,l⟩|⟨f,args,n,l⟩
  ·exact .inl ⟨v,w',n,o,λc j=>by rw [<-p];exact l c j⟩
  ·exact .inr ⟨f,args,n,l.mono λe w' ⟨v,t,o,C⟩=>⟨v,t,o,λc j=>by rw [<-p];exact C c j⟩⟩
 ·rw [t,y]at h;rcases h with ⟨r,h⟩|⟨r,h⟩
  rotate_left
  ·exact .inr ⟨r,λc j=>by rw [<-p];exact h c j⟩
  refine .inl ⟨r,?_⟩;rcases h with ⟨v,w',n,o,D,s,l⟩|⟨w',n,o,D,s,l⟩|⟨f,args,n,l⟩
  ·exact .inl ⟨v,w',n,o,D,s,λc j=>by rw [<-p];exact l c j⟩
  ·exact .inr (.inl ⟨w',n,o,D,s,λc j=>by rw [<-p];exact l c j⟩)
  ·exact .inr (.inr ⟨f,args,n,l.mono λe w' ⟨v,t,o,D,s,C⟩=>⟨v,t,o,D,s,λc j=>by rw [<-p];exact C c j⟩⟩)
 ·rw [t,y]at h;rcases h with ⟨r,A,m,cs,T,H,n,l⟩|⟨r,h⟩
  ·exact .inl ⟨r,A,m,cs,T,H,n,λb c J L O R=>by rw [<-p];exact l b c J L O R⟩
  ·exact .inr ⟨r,λc j=>by rw [<-p];exact h c j⟩

theorem aAv {i:Nat}{r:Oper} (hi:ops[i]? =some r) {K:Mm->Act->World->Prop}{M:Mm}{a:Act}{w:World} (t: ∀i B,kd i= .mk B-> ∀w,I w->B<=w.heap.size) (q: ∀w w',I w->gZ w w'->I w') (c:I w) (u:dB M w) (h:xOp P I ops kd i K M a w): ∃v w' p,I w'/\K p (a.put r.dst v) w':=by
 unfold xOp at h;simp only [hi]at h
 cases l:kd i<;>simp only [l]at h
 ·obtain⟨v,_,n⟩:=h;exact⟨v,w,_,c,n⟩
 ·obtain⟨v,_,n⟩:=h;exact⟨v,w,_,c,n w (gZ.refl w)⟩
 ·obtain⟨v,_,n⟩:=h;exact⟨v,w,_,c,n w (gZ.refl w)⟩
 ·rcases h with h|⟨_,h⟩
  rotate_left
  ·exact⟨_,w,_,c,h _ (gZ.refl _)⟩
  rcases h.2 with ⟨v,w',_,j,b⟩|⟨f,args,_,b⟩
  ·exact⟨v,w',_,q _ _ c j,b _ (gZ.refl _)⟩
  ·obtain⟨e,w',x,⟨v,_,j,l⟩,_⟩:=b [];exact⟨v,w',_,q _ _ c j,l _ (gZ.refl _)⟩
 ·rcases h with h|⟨_,h⟩
  rotate_left
  ·exact⟨_,w,_,c,h _ (gZ.refl _)⟩
  rcases h.2 with ⟨v,w',_,j,p,o,b⟩|⟨w',_,j,p,o,b⟩|⟨f,args,_,b⟩
  ·exact⟨v,w',_,j,b _ (gZ.refl _)⟩
  ·exact⟨_,w',_,j,b _ (gZ.refl _)⟩
  ·obtain⟨e,w',x,⟨v,_,j,p,o,l⟩,_⟩:=b [];exact⟨v,w',_,j,l _ (gZ.refl _)⟩
 ·rcases h with ⟨_,_,_,cs,T,rfl,_,b⟩|⟨_,h⟩
  ·have s:=kT w (.cells cs.toArray T);exact⟨_,_,_,q _ _ c s,b _ _ s (t i _ l w c) u.new (Al.mk' w cs T).blk⟩
  ·exact⟨_,w,_,c,h _ (gZ.refl _)⟩
theorem qN {j:Nat}{x:Oper} (H:ops[j]? =some x) (y:kd j≠ .pure) {K E:Mm->Act->World->Prop}{M:Mm}{a:Act}{w:World}
  (h:xOp P I ops kd j K M a w) (l: ∀u M z w',(kd j= .fcall\/kd j= .read\/kd j= .new\/(kd j).isMk=true->gZ w z)->(∀c,gZ z c->K M (a.put x.dst u) c)->gZ z w'->E M (a.put x.dst u) w'):xOp P I ops kd j E M a w:=by
 unfold xOp at *
 simp only [H]at h⊢
 cases s:kd j<;>simp only [s]at h⊢ <;>simp only [s]at l
 ·exact absurd s y
 ·obtain⟨v,B,C⟩:=h;exact⟨v,B,λw' i=>l v _ w w' (λ_=>gZ.refl w) C i⟩
 ·obtain⟨v,B,C⟩:=h;exact⟨v,B,λw' i=>l v _ w w' (λ_=>gZ.refl w) C i⟩
 ·rcases h with ⟨n,h⟩|⟨n,h⟩
  rotate_left
  ·exact .inr ⟨n,λw' i=>l _ _ w w' (λ_=>gZ.refl w) h i⟩
  refine .inl ⟨n,?_⟩;rcases h with ⟨v,w',o,p,q⟩|⟨f,args,o,q⟩
  ·exact .inl ⟨v,w',o,p,λc i=>l v _ w' c (λ_=>p) q i⟩
  ·exact .inr ⟨f,args,o,q.mono λe w' ⟨v,D,p,s⟩=>⟨v,D,p,λc i=>l v _ w' c (λ_=>p) s i⟩⟩
 ·rcases h with ⟨n,h⟩|⟨n,h⟩
  rotate_left
  ·exact .inr ⟨n,λw' i=>l _ _ w w' (λ_=>gZ.refl w) h i⟩
  refine .inl ⟨n,?_⟩;rcases h with ⟨v,w',o,p,t,r,q⟩|⟨w',o,p,t,r,q⟩|⟨f,args,o,q⟩
  ·exact .inl ⟨v,w',o,p,t,r,λc i=>l v _ w' c (λh=>by simp [Kd.isMk]at h) q i⟩
  ·exact .inr (.inl ⟨w',o,p,t,r,λc i=>l _ _ w' c (λh=>by simp [Kd.isMk]at h) q i⟩)
  ·exact .inr (.inr ⟨f,args,o,q.mono λe w' ⟨v,D,p,t,r,s⟩=>⟨v,D,p,t,r,λc i=>l v _ w' c (λh=>by simp [Kd.isMk]at h) s i⟩⟩)
 ·rcases h with ⟨n,A,m,cs,T,J,o,q⟩|⟨n,h⟩
  ·exact .inl ⟨n,A,m,cs,T,J,o,λb c F L O R=>l _ _ c c (λ_=>F) (λS G=>q b S (F.trans G) L O (R.Z G)) (gZ.refl _)⟩
  ·exact .inr ⟨n,λw' i=>l _ _ w w' (λ_=>gZ.refl w) h i⟩

theorem xSwap {i j:Nat} (hB: ∀i B,kd i= .mk B-> ∀w,I w->B<=w.heap.size) (Y:jT ops kd i j=true) (hs: ∀(k:Nat) (o:Oper) cs b,ops[k]? =some o->o.op≠ .select cs b) (hI: ∀w w',I w->gZ w w'->I w') {K:Mm->Act->World->Prop}{M:Mm}{a:Act}{w:World} (hw:I w) (hM:dB M w)
  (h:xOp P I ops kd i (xOp P I ops kd j K) M a w):xOp P I ops kd j (xOp P I ops kd i K) M a w:=by
 unfold jT at Y
 cases hi:ops[i]? with
 |none=>simp [hi]at Y
 |some z=>
  cases hj:ops[j]? with
  |none=>simp [hi,hj]at Y
  |some n=>
   simp only [hi,hj,Bool.and_eq_true,Bool.or_eq_true]at Y;obtain⟨⟨ab,A⟩,hk⟩:=Y;have ac:=λcs b=>hs i z cs b hi
   have C:=λcs b=>hs j n cs b hj
   obtain⟨_,i2,i3⟩:=Oper.apart_spec ab;obtain⟨_,_,j3⟩:=Oper.apart_spec A;have D: ∀{u:Value}{a:Act},execOp (a.put n.dst u).eval z=execOp a.eval z:=execOp_put _ ac _ _ _ i3;have E: ∀{u:Value}{a:Act},Region.wanted z (yielded ops (a.put n.dst u).tmps)=Region.wanted z (yielded ops a.tmps):=wanted_put _ _ _ _ i3;have S: ∀{u:Value}{a:Act},execOp (a.put z.dst u).eval n=execOp a.eval n:=execOp_put _ C _ _ _ j3;have T: ∀{u:Value}{a:Act},Region.wanted n (yielded ops (a.put z.dst u).tmps)=Region.wanted n (yielded ops a.tmps):=wanted_put _ _ _ _ j3;have h0:=h
   by_cases aq:(kd j).isPure=true
   ·have f:kd j= .pure:=by cases h':kd j<;>simp_all [Kd.isPure]
    obtain⟨v0,_,_,_,h1⟩:=aAv hi hB hI hw hM h;unfold xOp at h1;simp only [hj,f]at h1;obtain⟨u,F,_⟩:=h1;have ad:kF P I ops n u a:=F.of_same S.symm T.symm;have hu: ∀{M':Mm}{G:Act}{w':World},Region.wanted n (yielded ops G.tmps)=Region.wanted n (yielded ops a.tmps)->execOp G.eval n=execOp a.eval n->xOp P I ops kd j K M' G w'->K M' (G.put n.dst u) w':=by
     intro M' G w' av aw l;unfold xOp at l;simp only [hj,f]at l;obtain⟨u',ax,ay⟩:=l;have:u'=u:=by
      have az:kF P I ops n u' a:=ax.of_same aw.symm av.symm;rcases az with ⟨r,H⟩|⟨r,H⟩<;>rcases ad with ⟨r1,r2⟩|⟨r1,r2⟩
      ·have:=(H w hw).symm.trans (r2 w hw);injection this with this;injection this
      ·rw [r]at r1;cases r1
      ·rw [r]at r1;cases r1
      ·rw [H,r2]
     rw [<-this];exact ay
    have J:xOp P I ops kd i (λM G w'=>K M (G.put n.dst u) w') M a w:=mM (λo M v w' ho l=>by rw [hi]at ho;cases ho;exact hu T S l) h
    conv=>unfold xOp
    simp only [hj,f];exact⟨u,ad,aDz hi ab ac J⟩
   have L:kd j≠ .pure:=λe=>aq (by rw [e];rfl)
   by_cases bz:(kd i).isPure=true
   ·have c:kd i= .pure:=by cases h':kd i<;>simp_all [Kd.isPure]
    unfold xOp at h;simp only [hi,c]at h;obtain⟨v,F,hK⟩:=h;refine qN hj L (jK hj A C hK) λu M w1 w' _ J X=>?_
    unfold xOp;simp only [hi,c];exact⟨v,F.of_same D E,J w' X⟩
   by_cases b0:(kd i).isFcall=true
   ·have c:kd i= .fcall:=by cases h':kd i<;>simp_all [Kd.isFcall]
    unfold xOp at h;simp only [hi,c]at h;obtain⟨v,F,hK⟩:=h;refine qN hj L (jK hj A C (hK w (gZ.refl w))) λu M w1 w' _ J X=>?_
    unfold xOp;simp only [hi,c];exact⟨v,F.of_same D E,λp h4=>J p (X.trans h4)⟩
   by_cases b1:(kd i).isMk=true
   ·have b2:(kd j).isMk=true:=by cases h':kd i<;>cases h'':kd j<;>simp_all [Kd.isPure,Kd.isFcall,Kd.isRead,Kd.isNew,Kd.isMk]
    obtain⟨_,c⟩: ∃B,kd i= .mk B:=by cases h':kd i<;>simp_all [Kd.isMk]
    obtain⟨_,f⟩: ∃B,kd j= .mk B:=by cases h':kd j<;>simp_all [Kd.isMk]
    have hc: ∀v u,(a.put n.dst u).put z.dst v=(a.put z.dst v).put n.dst u:=λv u=>(Act.put_comm a v u i2).symm
    unfold xOp at h;simp only [hi,c]at h;unfold xOp;simp only [hj,f];rcases h with ⟨s,Ai,mi,ci,Ti,rfl,ri,Ki⟩|⟨s,Ki⟩
    ·have a7:=kT w (.cells ci.toArray Ti);have l:=Ki _ _ a7 (hB i _ c w hw) hM.new (Al.mk' w ci Ti).blk;unfold xOp at l;simp only [hj,f,T,S]at l;rcases l with ⟨m,Aj,mj,cj,Tj,_,rj,_⟩|⟨m,_⟩
     ·refine .inl ⟨m,Ai,mj,cj,Tj,rfl,rj,λb O r H q0 q3=>?_⟩;simp only [hi,c,E,D];refine .inl ⟨s,_,mi,ci,Ti,rfl,ri,λb' p y q5 q7 q6=>?_⟩;have l:=Ki b' p (r.trans y) q5 (λh=>q7 (.inr h)) q6;unfold xOp at l;simp only [hj,f,T,S]at l;rcases l with ⟨_,_,_,_,_,bh,bi,R⟩|⟨t,_⟩
      ·have aj:=hI _ _ hw (r.trans y);have e:=(bi p aj).symm.trans (rj p aj)
       injection e with e1 e2
       injection e1 with e1
       obtain rfl:=Mk.inj e1;obtain⟨rfl,rfl⟩:=wW e2
       cases bh
       rw [hc];have hk:=R b p (gZ.refl p) H (λh=>h.elim (λh=>q7 (.inl h.symm)) q0) (q3.Z y);have hE:(λx=>x=b\/x=b'\/Ai x)=(λx=>x=b'\/x=b\/Ai x):=funext λx=>propext ⟨λh=>h.elim (λh=> .inr (.inl h)) λh=>h.elim .inl λh=> .inr (.inr h),λh=>h.elim (λh=> .inr (.inl h)) λh=>h.elim .inl λh=> .inr (.inr h)⟩
       rw [hE]at hk;exact hk
      ·rw [m]at t;cases t
     ·refine .inr ⟨m,λO r=>?_⟩;simp only [hi,c,E,D];refine .inl ⟨s,Ai,mi,ci,Ti,rfl,ri,λb' p y q5 q7 q6=>?_⟩;have l:=Ki b' p (r.trans y) q5 q7 q6;unfold xOp at l;simp only [hj,f,T,S]at l;rcases l with ⟨t,_⟩|⟨_,R⟩
      ·rw [m]at t;cases t
      ·rw [hc];exact R p (gZ.refl p)
    ·have l:=Ki w (gZ.refl w);unfold xOp at l;simp only [hj,f,T,S]at l;rcases l with ⟨m,Aj,mj,cj,Tj,rfl,rj,R⟩|⟨m,R⟩
     ·refine .inl ⟨m,Aj,mj,cj,Tj,rfl,rj,λb O r H q0 q3=>?_⟩;simp only [hi,c,E,D];exact .inr ⟨s,λp y=>by rw [hc];exact R b p (r.trans y) H q0 (q3.Z y)⟩
     ·refine .inr ⟨m,λO r=>?_⟩;simp only [hi,c,E,D];exact .inr ⟨s,λp y=>by rw [hc];exact R p (r.trans y)⟩
   have c:kd i= .read:=by cases h':kd i<;>simp_all [Kd.isPure,Kd.isFcall,Kd.isRead,Kd.isNew,Kd.isMk]
   have f:kd j= .fcall\/kd j= .read\/kd j= .new\/(kd j).isMk=true:=by cases h':kd j<;>simp_all [Kd.isPure,Kd.isFcall,Kd.isRead,Kd.isNew,Kd.isMk]
   unfold xOp at h;simp only [hi,c]at h;obtain⟨v,F,hK⟩:=h;refine qN hj L (jK hj A C (hK w (gZ.refl w))) λu M w1 w' q J X=>?_
   unfold xOp;simp only [hi,c];exact⟨v,(F.Z ((q f).trans X)).of_same D E,λp h4=>J p (X.trans h4)⟩

theorem jJ (e: ∀i B,kd i= .mk B-> ∀w,I w->B<=w.heap.size)(f: ∀(k:Nat) (o:Oper) cs b,ops[k]? =some o->o.op≠ .select cs b)(c: ∀w w',I w->gZ w w'->I w')(i:Nat)(post:List Nat): ∀(pre:List Nat) (M:Mm) (a:Act) (w:World),I w->dB M w->(∀p∈pre,jT ops kd p i=true)->
  fU P I ops kd Q (pre++i::post) M a w->fU P I ops kd Q (i::(pre++post)) M a w
 | [],_,_,_,_,_,_,h=>h
 |p::pre,M,a,w,j,l,m,h=>by
  have n:xOp P I ops kd p (λM a w=>I w/\dB M w/\fU P I ops kd Q (pre++i::post) M a w) M a w:=vM c j l h;have r:xOp P I ops kd p (fU P I ops kd Q (i::(pre++post))) M a w:=mY (λM a w h=>jJ e f c i post pre M a w h.1 h.2.1 (λq s=>m q (List.mem_cons_of_mem _ s)) h.2.2) n;exact xSwap e (m p List.mem_cons_self) f c j l r

def waits (a:Region.Mode)(ops:Array Oper)(q p:Nat):Bool:=((ops[q]?).map λo=>o.after.toList.any λe=>Region.binds a e&&e.on==p).getD false
def dQ (a:Region.Mode)(ops:Array Oper):Nat->Nat->Nat->Bool
 |0,q,p=>waits a ops q p
 |n+1,q,p=>waits a ops q p||(List.range ops.size).any λm=>waits a ops q m&&dQ a ops n m p
def Dn (b:Region.Mode)(ops:Array Oper)(a:Array Bool):Prop:= ∀q p,a.getD q false=true->waits b ops q p=true->a.getD p true=true
theorem Dn.trans {f:Region.Mode}{ops:Array Oper}{a:Array Bool} (c:a.size=ops.size) (h:Dn f ops a): ∀(n q p:Nat),a.getD q false=true->dQ f ops n q p=true->a.getD p true=true
 |0,q,p,e,b=>h q p e b
 |n+1,q,p,e,b=>by
  simp only [dQ,Bool.or_eq_true,List.any_eq_true,Bool.and_eq_true,List.mem_range]at b;rcases b with b|⟨m,j,l,o⟩
  ·exact h q p e b
  ·have i:=h q m e l;refine Dn.trans c h n m p ?_ o;rw [Array.getD_eq_getD_getElem?,Array.getElem?_eq_getElem (by rw [c];exact j)]at i⊢;simpa using i
def pairB (a:Region.Mode)(ops:Array Oper)(kd:Nat->Kd):List Nat->Bool
 | []=>true
 |p::l=>(l.all λq=> !waits a ops p q&&(dQ a ops 5 q p||jT ops kd p q))&&pairB a ops kd l
def edgesB (a:Region.Mode)(ops:Array Oper):Bool:=
 (List.range ops.size).all λi=>((ops[i]?).map λo=>o.after.all λe=> !Region.binds a e||(decide (e.on<ops.size)&&e.on !=i)).getD true

theorem dU {b:Region.Mode} (i:Nat) (post:List Nat): ∀(pre:List Nat),pairB b ops kd (pre++i::post)=true->
  pairB b ops kd (pre++post)=true/\ ∀p∈pre,dQ b ops 5 i p=true\/jT ops kd p i=true
 | [],h=>by
  simp only [List.nil_append,pairB,Bool.and_eq_true]at h;exact⟨h.2,by simp⟩
 |p::pre,h=>by
  simp only [List.cons_append,pairB,Bool.and_eq_true]at h;obtain⟨c,e⟩:=h;obtain⟨f,j⟩:=dU i post pre e;rw [List.all_eq_true]at c;refine⟨?_,?_⟩
  ·simp only [List.cons_append,pairB,Bool.and_eq_true];refine⟨List.all_eq_true.2 λq a=>c q ?_,f⟩;rcases mA.1 a with h|h
   ·exact List.mem_append_left _ h
   ·exact List.mem_append_right _ (List.mem_cons_of_mem _ h)
  ·intro q a;rcases List.mem_cons.1 a with rfl|a
   ·have:=c i (List.mem_append_right _ List.mem_cons_self);simp only [Bool.and_eq_true,Bool.or_eq_true]at this;exact this.2
   ·exact j q a

theorem kD {F:Region.Mode}{Qx:Exit->Act->World->Prop} (hB: ∀i B,kd i= .mk B-> ∀w,I w->B<=w.heap.size) (hs: ∀(k:Nat) (o:Oper) cs b,ops[k]? =some o->o.op≠ .select cs b) (hI: ∀w w',I w->gZ w w'->I w') (ad:edgesB F ops=true) (hQ: ∀M a w,Q M a w->Qx .normal a w):
  ∀(r:Nat) (c:Array Bool) (l:List Nat) (M:Mm) (a:Act) (w:World),c.size=ops.size->l.Nodup->(∀i,i∈l↔i<ops.size/\c.getD i true=false)->pairB F ops kd l=true->l.length<=r->I w->dB M w->Dn F ops c->
   fU P I ops kd Q l M a w->wpAny P F ops Qx r c a w:=by
 have y: ∀{c:Array Bool}{i:Nat},c.size=ops.size->i∈Region.ready F ops c->i<ops.size/\c.getD i true=false:=by
  intro c i f hi;obtain⟨h0,o,R,_⟩:=mem_ready.1 hi;exact⟨(Array.getElem?_eq_some_iff.1 R).1,h0⟩
 intro r
 induction r with
 |zero=>
  intro c l M a w f _ J _ G _ _ _ h;have:l=[]:=List.eq_nil_of_length_eq_zero (by omega);subst this;refine⟨?_,hQ _ _ _ h⟩;apply List.eq_nil_iff_forall_not_mem.2;intro i hi;have:=(J i).2 (y f hi);simp at this
 |succ r ih=>
  intro c l M a w f ae J hp G S hM T h;refine⟨λhr=>?_,λi hi=>?_⟩
  ·cases l with
   |nil=>exact hQ _ _ _ h
   |cons p l=>
    exfalso;have j:=(J p).1 List.mem_cons_self;have:p∈Region.ready F ops c:=by
     refine mem_ready.2 ⟨j.2,ops[p],Array.getElem?_eq_getElem j.1,λe D x=>?_⟩;have n:=(List.all_eq_true.1 ad) p (List.mem_range.2 j.1);rw [Array.getElem?_eq_getElem j.1]at n;simp only [Option.map_some,Option.getD_some]at n;have n:=Array.all_eq_true_iff_forall_mem.1 n e D;rw [x]at n;simp only [Bool.not_true,Bool.false_or,Bool.and_eq_true,decide_eq_true_eq,bne_iff_ne,ne_eq]at n;obtain⟨u,X⟩:=n;have t:e.on<c.size:=by rw [f];exact u
     cases hc:c.getD e.on true with
     |true=>
      rw [Array.getD_eq_getD_getElem?,Array.getElem?_eq_getElem t]at hc⊢;simpa using hc
     |false=>
      exfalso;have s:=(J e.on).2 ⟨u,hc⟩;rcases List.mem_cons.1 s with s|s
      ·exact X s
      ·simp only [pairB,Bool.and_eq_true]at hp;have:=List.all_eq_true.1 hp.1 e.on s;simp only [Bool.and_eq_true,Bool.not_eq_true']at this;have O:waits F ops p e.on=true:=by
        unfold waits;rw [Array.getElem?_eq_getElem j.1];simp only [Option.map_some,Option.getD_some];exact List.any_eq_true.2 ⟨e,Array.mem_toList_iff.2 D,by simp [x]⟩
       rw [O]at this;exact Bool.noConfusion this.1
    rw [hr]at this
    cases this
  ·have j:=(J i).2 (y f hi);obtain⟨pre,post,rfl⟩:=List.append_of_mem j;obtain⟨ah,ai⟩:=dU i post pre hp;have Y: ∀p∈pre,jT ops kd p i=true:=by
    intro p aa;rcases ai p aa with O|s
    ·exfalso;have aj:=((J p).1 (List.mem_append_left _ aa));have ab: ∀m,waits F ops i m=true->c.getD m true=true:=by
      intro m E;obtain⟨_,o,R,z⟩:=mem_ready.1 hi;unfold waits at E;rw [R]at E;simp only [Option.map_some,Option.getD_some]at E;obtain⟨e,D,x⟩:=List.any_eq_true.1 E
      replace D:=Array.mem_toList_iff.1 D
      simp only [Bool.and_eq_true,beq_iff_eq]at x;have u:=z e D x.1;rw [x.2]at u
      by_cases L:m<c.size
      ·rw [Array.getD_eq_getD_getElem?,Array.getElem?_eq_getElem L]at u⊢;simpa using u
      ·rw [Array.getD_eq_getD_getElem?,Array.getElem?_eq_none (by omega)];rfl
     have:c.getD p true=true:=by
      simp only [dQ,Bool.or_eq_true,List.any_eq_true,Bool.and_eq_true,List.mem_range]at O;rcases O with O|⟨m,s,u,X⟩
      ·exact ab p O
      ·have h3:=ab m u;have h4:c.getD m false=true:=by
        rw [Array.getD_eq_getD_getElem?,Array.getElem?_eq_getElem (by rw [f];exact s)]at h3⊢;simpa using h3
       refine Dn.trans f T 4 m p h4 ?_;simp only [dQ,Bool.or_eq_true,List.any_eq_true,Bool.and_eq_true,List.mem_range];exact X
     rw [aj.2]at this;cases this
    ·exact s
   have hx:=jJ hB hs hI i post pre M a w S hM Y h;have hx:=nD (Qx:=Qx) hB hI S hM hx;refine wpOp_mono (λa w ⟨M,h⟩=>?_) hx;have H:(pre++post).Nodup/\i∉pre++post:=by
    have:=ae;rw [List.nodup_append]at this;obtain⟨n1,n2,n3⟩:=this;rw [List.nodup_cons]at n2;refine⟨List.nodup_append.2 ⟨n1,n2.2,λa ha b x=>n3 a ha b (List.mem_cons_of_mem _ x)⟩,λs=>?_⟩;rcases mA.1 s with s|s
    ·exact n3 i s i List.mem_cons_self rfl
    ·exact n2.1 s
   refine ih _ (pre++post) M a w (by simpa using f) H.1 (λk=>?_) ah (by simp at G⊢;omega) h.1 h.2.1 ?_ h.2.2
   rotate_left
   ·intro q p hq A
    by_cases ac:q=i
    ·subst ac;obtain⟨_,o,R,z⟩:=mem_ready.1 hi;unfold waits at A;rw [R]at A;simp only [Option.map_some,Option.getD_some]at A;obtain⟨e,D,x⟩:=List.any_eq_true.1 A
     replace D:=Array.mem_toList_iff.1 D
     simp only [Bool.and_eq_true,beq_iff_eq]at x;have u:=z e D x.1;rw [x.2]at u
     by_cases C:p=q
     ·subst C;have t:p<c.size:=by rw [f];exact(y f hi).1
      simp [Array.getD_eq_getD_getElem?,t]
     ·rw [getD_set_ne true (Ne.symm C)]
      by_cases L:p<c.size
      ·rw [Array.getD_eq_getD_getElem?,Array.getElem?_eq_getElem L]at u⊢;simpa using u
      ·rw [Array.getD_eq_getD_getElem?,Array.getElem?_eq_none (by omega)];rfl
    ·rw [getD_set_ne false (Ne.symm ac)]at hq;have u:=T q p hq A
     by_cases C:p=i
     ·subst C;have t:p<c.size:=by rw [f];exact(y f hi).1
      simp [Array.getD_eq_getD_getElem?,t]
     ·rw [getD_set_ne true (Ne.symm C)];exact u
   by_cases hk:k=i
   ·subst hk;have t:k<c.size:=by rw [f];exact(y f hi).1
    constructor
    ·intro s;exact absurd s H.2
    ·rintro⟨_,X⟩;simp [Array.getD_eq_getD_getElem?,t]at X
   ·rw [getD_set_ne true (Ne.symm hk),<-J k];simp [hk]

theorem kK {j:Region.Mode}{a:Array Bool}{p:Nat}{l:List Nat}(m:a.size=ops.size)(n:edgesB j ops=true)(r: ∀i,i∈p::l↔i<ops.size/\a.getD i true=false)(x: ∀q∈l,waits j ops p q=false):p∈Region.ready j ops a:=by
 have c:=(r p).1 List.mem_cons_self;refine mem_ready.2 ⟨c.2,ops[p],Array.getElem?_eq_getElem c.1,λe s t=>?_⟩;have b:=(List.all_eq_true.1 n) p (List.mem_range.2 c.1);rw [Array.getElem?_eq_getElem c.1]at b;simp only [Option.map_some,Option.getD_some]at b;have b:=Array.all_eq_true_iff_forall_mem.1 b e s;rw [t]at b;simp only [Bool.not_true,Bool.false_or,Bool.and_eq_true,decide_eq_true_eq,bne_iff_ne,ne_eq]at b;obtain⟨u,y⟩:=b;have o:e.on<a.size:=by rw [m];exact u
 cases hc:a.getD e.on true with
 |true=>
  rw [Array.getD_eq_getD_getElem?,Array.getElem?_eq_getElem o]at hc⊢;simpa using hc
 |false=>
  exfalso;have f:=(r e.on).2 ⟨u,hc⟩;rcases List.mem_cons.1 f with f|f
  ·exact y f
  ·have h:waits j ops p e.on=true:=by
    unfold waits;rw [Array.getElem?_eq_getElem c.1];simp only [Option.map_some,Option.getD_some];exact List.any_eq_true.2 ⟨e,Array.mem_toList_iff.2 s,by simp [t]⟩
   rw [x e.on f]at h;cases h
theorem jI {n:Region.Mode}{a:Array Bool}{i m:Nat} (hi:i∈Region.ready n ops a) (b:waits n ops i m=true):a.getD m true=true:=by
 obtain⟨_,_,p,c⟩:=mem_ready.1 hi;unfold waits at b;rw [p]at b;simp only [Option.map_some,Option.getD_some]at b;obtain⟨e,f,h⟩:=List.any_eq_true.1 b
 replace f:=Array.mem_toList_iff.1 f
 simp only [Bool.and_eq_true,beq_iff_eq]at h;have j:=c e f h.1;rw [h.2]at j
 by_cases l:m<a.size
 ·rw [Array.getD_eq_getD_getElem?,Array.getElem?_eq_getElem l]at j⊢;simpa using j
 ·rw [Array.getD_eq_getD_getElem?,Array.getElem?_eq_none (by omega)];rfl
theorem eY {e:Region.Mode}{a:Array Bool}{i p:Nat} (b:a.size=ops.size) (f:Dn e ops a) (hi:i∈Region.ready e ops a) (c:dQ e ops 5 i p=true):a.getD p true=true:=by
 simp only [dQ,Bool.or_eq_true,List.any_eq_true,Bool.and_eq_true,List.mem_range]at c;rcases c with c|⟨m,j,l,n⟩
 ·exact jI hi c
 ·have h:=jI hi l;have o:a.getD m false=true:=by
   rw [Array.getD_eq_getD_getElem?,Array.getElem?_eq_getElem (by rw [b];exact j)]at h⊢;simpa using h
  refine Dn.trans b f 4 m p o ?_;simp only [dQ,Bool.or_eq_true,List.any_eq_true,Bool.and_eq_true,List.mem_range];exact n
theorem qV {l:Region.Mode}{a:Array Bool}{i:Nat} (e:a.size=ops.size) (f:i<ops.size) (m:Dn l ops a) (hi:i∈Region.ready l ops a):Dn l ops (a.setIfInBounds i true):=by
 intro q p o h;by_cases j:q=i;subst j;have n:=jI hi h;by_cases b:p=q;subst b;have c:p<a.size:=by rw [e];exact f
 simp [Array.getD_eq_getD_getElem?,c];rw [getD_set_ne true (Ne.symm b)];exact n;rw [getD_set_ne false (Ne.symm j)]at o;have n:=m q p o h;by_cases b:p=i;subst b;have c:p<a.size:=by rw [e];exact f
 simp [Array.getD_eq_getD_getElem?,c];rw [getD_set_ne true (Ne.symm b)];exact n
theorem jE {c:Array Bool}{i:Nat}{pre post:List Nat} (j:c.size=ops.size) (l:i<ops.size) (h:(pre++i::post).Nodup) (q: ∀k,k∈pre++i::post↔k<ops.size/\c.getD k true=false):
  (pre++post).Nodup/\ ∀k,k∈pre++post↔k<ops.size/\(c.setIfInBounds i true).getD k true=false:=by
 have e:(pre++post).Nodup/\i∉pre++post:=by
  rw [List.nodup_append]at h;obtain⟨r,m,p⟩:=h;rw [List.nodup_cons]at m;refine⟨List.nodup_append.2 ⟨r,m.2,λa s b t=>p a s b (List.mem_cons_of_mem _ t)⟩,λf=>?_⟩;rcases mA.1 f with f|f
  ·exact p i f i List.mem_cons_self rfl
  ·exact m.1 f
 refine⟨e.1,λk=>?_⟩
 by_cases n:k=i
 ·subst n;have o:k<c.size:=by rw [j];exact l
  constructor
  ·intro f;exact absurd f e.2
  ·rintro⟨_,u⟩;simp [Array.getD_eq_getD_getElem?,o]at u
 ·rw [getD_set_ne true (Ne.symm n),<-q k];simp [n]
theorem bP (Q:Mm->Act->World->Prop)(l2:List Nat): ∀(l1:List Nat) (M:Mm) (a:Act) (w:World),fU P I ops kd Q (l1++l2) M a w=fU P I ops kd (λM a w=>fU P I ops kd Q l2 M a w) l1 M a w
 | [],_,_,_=>rfl
 |i::l1,M,a,w=>by
  have e:fU P I ops kd Q (l1++l2)=fU P I ops kd (λM a w=>fU P I ops kd Q l2 M a w) l1:=by
   funext M a w;exact bP Q l2 l1 M a w
  show xOp P I ops kd i (fU P I ops kd Q (l1++l2)) M a w=_;rw [e];rfl
theorem dG {b:Mm->Act->World->Prop}(h: ∀M a w,Q M a w->b M a w): ∀(l:List Nat) (M:Mm) (a:Act) (w:World),fU P I ops kd Q l M a w->fU P I ops kd b l M a w
 | [],_,_,_,hh=>h _ _ _ hh
 |_::l,_,_,_,hh=>mY (λM a w c=>dG h l M a w c) hh
theorem sV (c: ∀w w',I w->gZ w w'->I w'): ∀(l:List Nat) (M:Mm) (a:Act) (w:World),I w->dB M w->fU P I ops kd Q l M a w->fU P I ops kd (λM a w=>I w/\Q M a w) l M a w
 | [],_,_,_,b,_,h=>⟨b,h⟩
 |i::l,M,a,w,b,e,h=>by
  have f:xOp P I ops kd i (λM a w=>I w/\dB M w/\fU P I ops kd Q l M a w) M a w:=vM c b e h;exact mY (λM a w h=>sV c l M a w h.1 h.2.1 h.2.2) f
def mvB (ops:Array Oper)(kd:Nat->Kd)(p:Nat):Bool:=match ops[p]? with
 |some o=>(kd p).isPure&&(match o.op with | .move _=>true| .assign _=>true| .extract _ _=>true|_=>false)
 |none=>false
theorem kF.mv {I0 : World -> Prop} {p : Nat} {o : Oper} {v : Value} {a : Act} {w : World} (ho : ops[p]? = some o) (hm : mvB ops kd p = true) (hw : I w) (h : kF P I ops o v a) : kF P I0 ops o v a := by
  refine h.imp (λ ⟨h1, h2⟩ => ⟨h1, λ_ _ => ?_⟩) id;have q := h2 w hw;unfold mvB at hm;rw [ho] at hm;simp only [Bool.and_eq_true] at hm;have hm := hm.2
  cases hop : o.op <;> rw [hop] at hm <;> simp only [Bool.false_eq_true] at hm
  all_goals
    unfold execOp at q ⊢;rw [hop] at q ⊢;simp at q ⊢
    first
      | exact q
      | (unfold Instr.extract at q ⊢
         split at q
         · split at q
           · simp_all
           · simp_all [stuck]
         · simp_all)
def forkB (a:Region.Mode)(ops:Array Oper)(kd:Nat->Kd)(pre:List Nat)(u v:Nat)(post:List Nat):Bool:=
 pairB a ops kd (pre++u::post)&&pairB a ops kd (pre++v::post)&& !waits a ops u v&& !waits a ops v u&&(post.all λq=>dQ a ops 5 q u||dQ a ops 5 q v)&& !(mvB ops kd u&&mvB ops kd v)
theorem jH {a:Region.Mode}(i:Nat)(post pre:List Nat)(h:pairB a ops kd (pre++i::post)=true):pairB a ops kd (pre++post)=true:=(dU i post pre h).1
theorem dH {b:Region.Mode}{p q:Nat}: ∀{l1 l2:List Nat},pairB b ops kd (l1++p::l2)=true->q∈l2->waits b ops p q=false
 | [],l2,h,a=>by
  simp only [List.nil_append,pairB,Bool.and_eq_true]at h;have:=List.all_eq_true.1 h.1 q a;simp only [Bool.and_eq_true,Bool.not_eq_true']at this;exact this.1
 |x::l1,l2,h,a=>by
  simp only [List.cons_append,pairB,Bool.and_eq_true]at h;exact dH h.2 a
theorem xP {b:Region.Mode}{i u v:Nat}{a p2 post:List Nat}(h:forkB b ops kd (a++i::p2) u v post=true):forkB b ops kd (a++p2) u v post=true:=by
 unfold forkB at *;simp only [Bool.and_eq_true]at h⊢;obtain⟨⟨⟨⟨⟨c,e⟩,f⟩,j⟩,l⟩,m⟩:=h;rw [List.append_assoc,List.cons_append]at c e;refine⟨⟨⟨⟨⟨?_,?_⟩,f⟩,j⟩,l⟩,m⟩;rw [List.append_assoc];exact jH i _ a c;rw [List.append_assoc];exact jH i _ a e
def barB (a:Region.Mode)(ops:Array Oper)(kd:Nat->Kd)(l l2:List Nat):Bool:=l.all λp=>l2.all λq=> !waits a ops p q&&(dQ a ops 5 q p||(mvB ops kd p&&jT ops kd p q))
theorem bY {a:Region.Mode}{l l2:List Nat}(h:barB a ops kd l l2=true){p q:Nat}(b:p∈l)(c:q∈l2):(dQ a ops 5 q p=true\/mvB ops kd p=true/\jT ops kd p q=true)/\waits a ops p q=false:=by
 have:=List.all_eq_true.1 (List.all_eq_true.1 h p b) q c;simp only [Bool.and_eq_true,Bool.or_eq_true,Bool.not_eq_true']at this;exact⟨this.2,this.1⟩
theorem aK {a:Region.Mode}{l b l2:List Nat}(h:barB a ops kd l l2=true)(c: ∀x∈b,x∈l):barB a ops kd b l2=true:=List.all_eq_true.2 λx e=>List.all_eq_true.1 h x (c x e)
theorem pG {b:Region.Mode}{l2:List Nat} (c:pairB b ops kd l2=true): ∀{l:List Nat},pairB b ops kd l=true->barB b ops kd l l2=true->pairB b ops kd (l++l2)=true
 | [],_,_=>c
 |p::l,h,e=>by
  simp only [pairB,Bool.and_eq_true]at h;rw [List.cons_append];simp only [pairB,Bool.and_eq_true];refine⟨List.all_eq_true.2 λq a=>?_,pG c h.2 (aK e λx f=>List.mem_cons_of_mem _ f)⟩;rcases mA.1 a with a|a
  ·exact List.all_eq_true.1 h.1 q a
  ·obtain⟨i,j⟩:=bY e List.mem_cons_self a;rw [j];simp only [Bool.not_false,Bool.true_and,Bool.or_eq_true];exact i.imp id And.right
theorem qP {I0:World->Prop}{c:Mm->Act->World->Prop}{l2:List Nat}: ∀(l:List Nat) {M:Mm}{a:Act}{w:World},(∀p∈l,mvB ops kd p=true)->I w->fU P I ops kd (λ_ a w=>I0 w/\fU P I0 ops kd c l2 none a w) l M a w->I0 w/\fU P I0 ops kd c (l++l2) none a w
 | [],_,_,_,_,_,h=>h
 |p::l,M,a,w,e,f,h=>by
  have i:=e p List.mem_cons_self;have b:=i;change xOp P I ops kd p _ M a w at h;unfold xOp at h
  cases ho:ops[p]? with
  |none=>rw [ho]at h;exact h.elim
  |some _=>
   have j:kd p= .pure:=by
    unfold mvB at b;rw [ho]at b;simp only [Bool.and_eq_true]at b
    cases h':kd p<;>simp_all [Kd.isPure]
   simp only [ho,j]at h;obtain⟨v,m,n⟩:=h;obtain⟨q,r⟩:=qP l (λx s=>e x (List.mem_cons_of_mem _ s)) f n;refine⟨q,?_⟩;rw [List.cons_append];show xOp P I0 ops kd p _ none a w;unfold xOp;simp only [ho,j];exact⟨v,m.mv ho i f,r⟩
theorem nI {t:Region.Mode}{Qx:Exit->Act->World->Prop} (X: ∀i B,kd i= .mk B-> ∀w,I w->B<=w.heap.size) (hs: ∀(k:Nat) (o:Oper) cs b,ops[k]? =some o->o.op≠ .select cs b) (Y: ∀w w',I w->gZ w w'->I w') (T:edgesB t ops=true) (l2:List Nat)
  (z: ∀(e:Nat) (c:Array Bool) (l:List Nat) (M:Mm) (a:Act) (w:World),(∀p∈l,mvB ops kd p=true)->c.size=ops.size->(l++l2).Nodup->(∀i,i∈l++l2↔i<ops.size/\c.getD i true=false)->pairB t ops kd l=true->barB t ops kd l l2=true->(l++l2).length<=e->I w->dB M w->Dn t ops c->fU P I ops kd Q l M a w->wpAny P t ops Qx e c a w):
  ∀(e:Nat) (c:Array Bool) (l:List Nat) (M:Mm) (a:Act) (w:World),c.size=ops.size->(l++l2).Nodup->(∀i,i∈l++l2↔i<ops.size/\c.getD i true=false)->pairB t ops kd l=true->barB t ops kd l l2=true->(l++l2).length<=e->I w->dB M w->Dn t ops c->
   fU P I ops kd Q l M a w->wpAny P t ops Qx e c a w:=by
 have D: ∀{c:Array Bool}{i:Nat},c.size=ops.size->i∈Region.ready t ops c->i<ops.size/\c.getD i true=false:=by
  intro c i f hi;obtain⟨C,o,ho,_⟩:=mem_ready.1 hi;exact⟨(Array.getElem?_eq_some_iff.1 ho).1,C⟩
 intro e
 induction e with
 |zero=>
  intro c l M a w f m u _ _ j r E n h;have C:l=[]:=List.eq_nil_of_length_eq_zero (by rw [List.length_append]at j;omega);subst C;exact z 0 c [] M a w (by simp) f m u rfl rfl j r E n h
 |succ e ih=>
  intro c l M a w f m u A F j r E n h
  by_cases s: ∀p∈l,mvB ops kd p=true
  ·exact z _ c l M a w s f m u A F j r E n h
  cases l with
  |nil=>exact absurd (by simp) s
  |cons p0 l0=>
   refine⟨λhr=>?_,λi hi=>?_⟩
   ·exfalso;have:=kK (p:=p0) (l:=l0++l2) f T u (λq G=>by
     rcases mA.1 G with G|G
     ·exact dH (l1:=[]) A G
     ·exact(bY F List.mem_cons_self G).2)
    rw [hr]at this;cases this
   ·have H:=(D f hi).1;have J:=(u i).2 (D f hi);rcases mA.1 J with L|L
    ·obtain⟨O,p2,he⟩:=List.append_of_mem L;rw [he]at m u A F j h;have R: ∀p∈O,jT ops kd p i=true:=λp S=>by
      rcases(dU i _ O A).2 p S with hw|L
      ·have:=eY f n hi hw;have C:=((u p).1 (List.mem_append_left _ (List.mem_append_left _ S))).2;rw [C]at this;cases this
      ·exact L
     have y:=jJ X hs Y i p2 O M a w r E R h;have y:=nD (Qx:=Qx) X Y r E y;refine wpOp_mono (λa w ⟨M,h⟩=>?_) y;rw [List.append_assoc,List.cons_append]at m u;obtain⟨n1,n2⟩:=jE f H m u;refine ih _ (O++p2) M a w (by simpa using f) (by rw [List.append_assoc];exact n1) (by rw [List.append_assoc];exact n2) (jH i p2 O A) (aK F λ_ y=>?_) (by simp at j⊢;omega) h.1 h.2.1 (qV f H n hi) h.2.2;rcases mA.1 y with y|y
     ·exact List.mem_append_left _ y
     ·exact List.mem_append_right _ (List.mem_cons_of_mem _ y)
    ·exfalso;refine s λp A=>?_
     rcases(bY F A L).1 with q|q
     ·have:=eY f n hi q;have C:=((u p).1 (List.mem_append_left _ A)).2;rw [C]at this;cases this
     ·exact q.1
theorem uJ {G:Region.Mode}{Qx:Exit->Act->World->Prop} (J: ∀i B,kd i= .mk B-> ∀w,I w->B<=w.heap.size) (hs: ∀(k:Nat) (o:Oper) cs b,ops[k]? =some o->o.op≠ .select cs b) (L: ∀w w',I w->gZ w w'->I w') (H:edgesB G ops=true) (u v:Nat) (post l2:List Nat)
  (O: ∀(f:Nat) (c:Array Bool) (l:List Nat) (M:Mm) (a:Act) (w:World),(∀p∈l,mvB ops kd p=true)->c.size=ops.size->(l++l2).Nodup->(∀i,i∈l++l2↔i<ops.size/\c.getD i true=false)->pairB G ops kd l=true->barB G ops kd l l2=true->(l++l2).length<=f->I w->dB M w->Dn G ops c->fU P I ops kd Q l M a w->wpAny P G ops Qx f c a w):
  ∀(f:Nat) (c:Array Bool) (pre:List Nat) (M:Mm) (a:Act) (w:World),c.size=ops.size->(pre++u::v::(post++l2)).Nodup->(∀i,i∈pre++u::v::(post++l2)↔i<ops.size/\c.getD i true=false)->forkB G ops kd pre u v post=true->barB G ops kd (pre++u::v::post) l2=true->(pre++u::v::(post++l2)).length<=f->I w->dB M w->Dn G ops c->
   fU P I ops kd (λM a w=>fU P I ops kd Q (u::v::post) M a w/\fU P I ops kd Q (v::u::post) M a w) pre M a w->wpAny P G ops Qx f c a w:=by
 have ac: ∀{c:Array Bool}{i:Nat},c.size=ops.size->i∈Region.ready G ops c->i<ops.size/\c.getD i true=false:=by
  intro c i e hi;obtain⟨A,o,ho,_⟩:=mem_ready.1 hi;exact⟨(Array.getElem?_eq_some_iff.1 ho).1,A⟩
 intro f
 induction f with
 |zero=>intro c pre M a w _ _ _ _ _ r;simp at r
 |succ f ih=>
  intro c pre M a w e S E hp X r C Y n h;have ap:=hp;unfold forkB at hp;simp only [Bool.and_eq_true,Bool.not_eq_true']at hp;obtain⟨⟨⟨⟨⟨z,T⟩,aq⟩,_⟩,ar⟩,ad⟩:=hp;refine⟨λhr=>?_,λi hi=>?_⟩
  ·exfalso
   cases pre with
   |nil=>
    have:=kK (p:=u) (l:=v::(post++l2)) e H E (λq j=>by
     rcases List.mem_cons.1 j with rfl|j
     ·exact aq
     ·rcases mA.1 j with j|j
      ·exact dH (l1:=[]) z j
      ·exact(bY X List.mem_cons_self j).2)
    rw [hr]at this;cases this
   |cons p pre=>
    have:=kK (p:=p) (l:=pre++u::v::(post++l2)) e H E (λq j=>by
     rcases mA.1 j with j|j
     ·exact dH (l1:=[]) z (List.mem_append_left _ j)
     ·rcases List.mem_cons.1 j with rfl|j
      ·exact dH (l1:=[]) z (List.mem_append_right _ List.mem_cons_self)
      ·rcases List.mem_cons.1 j with rfl|j
       ·exact dH (l1:=[]) T (List.mem_append_right _ List.mem_cons_self)
       ·rcases mA.1 j with j|j
        ·exact dH (l1:=[]) z (List.mem_append_right _ (List.mem_cons_of_mem _ j))
        ·exact(bY X List.mem_cons_self j).2)
    rw [hr]at this;cases this
  ·have D:=(ac e hi).1;have ae:=(E i).2 (ac e hi);rcases mA.1 ae with s|s
   ·obtain⟨p1,p2,rfl⟩:=List.append_of_mem s;have ag:=z;rw [List.append_assoc,List.cons_append]at ag;have t: ∀p∈p1,jT ops kd p i=true:=λp y=>by
     rcases(dU i _ p1 ag).2 p y with hw|s
     ·have:=eY e n hi hw;have A:=((E p).1 (List.mem_append_left _ (List.mem_append_left _ y))).2;rw [A]at this;cases this
     ·exact s
    have m:=jJ J hs L i p2 p1 M a w C Y t h;have m:=nD (Qx:=Qx) J L C Y m;refine wpOp_mono (λa w ⟨M,h⟩=>?_) m;have R:=S;rw [List.append_assoc,List.cons_append]at R;have ai:=E;rw [List.append_assoc,List.cons_append]at ai;obtain⟨n1,n2⟩:=jE e D R ai;refine ih _ (p1++p2) M a w (by simpa using e) (by rw [List.append_assoc];exact n1) (by rw [List.append_assoc];exact n2) (xP ap) (aK X λx m=>by simp at m⊢;rcases m with h|h|h|h|h<;>simp [h]) (by simp at r⊢;omega) h.1 h.2.1 (qV e D n hi) h.2.2
   ·rcases List.mem_cons.1 s with rfl|s
    ·have t: ∀p∈pre,jT ops kd p i=true:=λp y=>by
      rcases(dU i _ pre z).2 p y with hw|s
      ·have:=eY e n hi hw;have A:=((E p).1 (List.mem_append_left _ y)).2;rw [A]at this;cases this
      ·exact s
     have h1:fU P I ops kd Q (pre++i::v::post) M a w:=by
      rw [bP];exact dG (λ_ _ _ h=>h.1) pre M a w h
     have m:=jJ J hs L i (v::post) pre M a w C Y t h1;have m:=nD (Qx:=Qx) J L C Y m;refine wpOp_mono (λa w ⟨M,h⟩=>?_) m;obtain⟨n1,n2⟩:=jE (pre:=pre) e D S E;exact nI J hs L H l2 O f _ (pre++v::post) M a w (by simpa using e) (by simpa using n1) (by simpa using n2) T (aK X λx m=>by simp at m⊢;rcases m with h|h|h<;>simp [h]) (by simp at r⊢;omega) h.1 h.2.1 (qV e D n hi) h.2.2
    ·rcases List.mem_cons.1 s with rfl|s
     ·have t: ∀p∈pre,jT ops kd p i=true:=λp y=>by
       rcases(dU i _ pre T).2 p y with hw|s
       ·have:=eY e n hi hw;have A:=((E p).1 (List.mem_append_left _ y)).2;rw [A]at this;cases this
       ·exact s
      have h1:fU P I ops kd Q (pre++i::u::post) M a w:=by
       rw [bP];exact dG (λ_ _ _ h=>h.2) pre M a w h
      have m:=jJ J hs L i (u::post) pre M a w C Y t h1;have m:=nD (Qx:=Qx) J L C Y m;refine wpOp_mono (λa w ⟨M,h⟩=>?_) m;have F:(pre++u::i::(post++l2)).Perm (pre++i::u::(post++l2)):=List.Perm.append_left pre (List.Perm.swap i u _);obtain⟨n1,n2⟩:=jE e D (F.nodup_iff.1 S) (λk=>by rw [<-F.mem_iff];exact E k);exact nI J hs L H l2 O f _ (pre++u::post) M a w (by simpa using e) (by simpa using n1) (by simpa using n2) z (aK X λx m=>by simp at m⊢;rcases m with h|h|h<;>simp [h]) (by simp at r⊢;omega) h.1 h.2.1 (qV e D n hi) h.2.2
     ·exfalso;rcases mA.1 s with s|s
      rotate_left
      ·have am: ∀x,x∈pre++u::v::post->x∈pre++u::v::(post++l2)->mvB ops kd x=true:=λx h1 h2=>by
        rcases(bY X h1 s).1 with q|q
        ·have:=eY e n hi q;have A:=((E x).1 h2).2;rw [A]at this;cases this
        ·exact q.1
       rw [am u (by simp) (by simp),am v (by simp) (by simp)]at ad
       cases ad
      have h5:=List.all_eq_true.1 ar i s;simp only [Bool.or_eq_true]at h5;rcases h5 with h5|h5
      ·have:=eY e n hi h5;have A:=((E u).1 (List.mem_append_right _ List.mem_cons_self)).2;rw [A]at this;cases this
      ·have:=eY e n hi h5;have A:=((E v).1 (List.mem_append_right _ (List.mem_cons_of_mem _ List.mem_cons_self))).2;rw [A]at this;cases this
theorem nY {id N:Nat}{l:List Oper}{Qx:Exit->Env->World->Prop}{a:Act}{w:World}{pre post l2:List Nat}{u v:Nat}{I0:World->Prop}(L: ∀i B,kd i= .mk B-> ∀w,I w->B<=w.heap.size)(t: ∀i B,kd i= .mk B-> ∀w,I0 w->B<=w.heap.size)(O:P.follows .mixedOrders=true)(H:Region.noSelect l.toArray=true)(m:edgesB .any l.toArray=true)(R:forkB .any l.toArray kd pre u v post=true)(S:barB .any l.toArray kd (pre++u::v::post) l2=true)(y:pairB .any l.toArray kd l2=true)
    (b:(pre++u::v::(post++l2)).Perm (List.range l.length))(J: ∀w w',I w->gZ w w'->I w')(z: ∀w w',I0 w->gZ w w'->I0 w')(s:I w)
    (h: ∀w',gZ w w'->fU P I l.toArray kd (λM a w=>fU P I l.toArray kd (λ_ a w=>I0 w/\fU P I0 l.toArray kd (λ_ a w=> ∃c,Fits N a c/\Qx .normal c w) l2 none a w) (u::v::post) M a w/\fU P I l.toArray kd (λ_ a w=>I0 w/\fU P I0 l.toArray kd (λ_ a w=> ∃c,Fits N a c/\Qx .normal c w) l2 none a w) (v::u::post) M a w) pre (some λ_=>False) a w'):(Code.region id l.toArray true).wp P (tH N Qx) a w:=by
 refine wp_region_any O (uJ L (Region.noSelect_spec H) J m u v post l2 (λn f l M a w o C D T E F r s _ G j=>kD (I:=I0) t (Region.noSelect_spec H) z m (λ_ _ _ h=>h) n f (l++l2) none a w C D T (pG y E F) r (qP l o s j).1 dB.no G (qP l o s j).2) _ _ pre (some λ_=>False) a _ (by simp) (b.nodup_iff.2 List.nodup_range) (λi=>?_) R S (by rw [b.length_eq];simp) (J _ _ s ((Below.refl _ _).drew)) (λ_ e _ X=>by cases e;exact X.elim) (λ_ _ j _=>by simp [Array.getD_eq_getD_getElem?,Array.getElem?_replicate]at j;split at j<;>simp at j) (h _ ((Below.refl _ _).drew)));rw [b.mem_iff,List.mem_range];constructor;intro hi;exact⟨by simpa using hi,by simp [Array.getD_eq_getD_getElem?,hi]⟩;exact λh=>by simpa using h.1
theorem jZ {id N:Nat}{l:List Oper}{Qx:Exit->Env->World->Prop}{a:Act}{w:World}{σ:List Nat}(n: ∀i B,kd i= .mk B-> ∀w,I w->B<=w.heap.size)(o:P.follows .mixedOrders=true)(r:Region.noSelect l.toArray=true)(f:edgesB .any l.toArray=true)(s:pairB .any l.toArray kd σ=true)
    (b:σ.Perm (List.range l.length))(m: ∀w w',I w->gZ w w'->I w')(t:I w)(h: ∀w',gZ w w'->fU P I l.toArray kd (λ_ a w=> ∃c,Fits N a c/\Qx .normal c w) σ (some λ_=>False) a w'):(Code.region id l.toArray true).wp P (tH N Qx) a w:=by
 refine wp_region_any o (kD n (Region.noSelect_spec r) m f (λ_ _ _ h=>h) _ _ σ (some λ_=>False) a _ (by simp) (b.nodup_iff.2 List.nodup_range) (λi=>?_) s (by rw [b.length_eq];simp) (m _ _ t ((Below.refl _ _).drew)) (λ_ e _ u=>by cases e;exact u.elim) (λ_ _ j _=>by simp [Array.getD_eq_getD_getElem?,Array.getElem?_replicate]at j;split at j<;>simp at j) (h _ ((Below.refl _ _).drew)));rw [b.mem_iff,List.mem_range];constructor;intro hi;exact⟨by simpa using hi,by simp [Array.getD_eq_getD_getElem?,hi]⟩;exact λh=>by simpa using h.1
end

def kdOf (κ:List Kd)(i:Nat):Kd:=κ.getD i .pure

def XL (P:Program)(I:World->Prop)(N:Nat)(ops:Array Oper)(κ:List Kd)(K:Mm->Env->World->Prop)(M:Mm)(σ:List Nat)(l:List Oper)(ρ:Env)(w:World):Prop:=
 (l.map some=σ.map λi=>ops[i]?)-> ∀w',gZ w w'->I w'-> ∀a,Fits N a ρ->fU P I ops (kdOf κ) (λM a w=> ∃b,Fits N a b/\K M b w) σ M a w'

section
variable {P:Program}{I:World->Prop}{N:Nat}{ops:Array Oper}{κ:List Kd}{K:Mm->Env->World->Prop}{Q:Exit->Env->World->Prop}{k:Nat}{M:Mm}{σ:List Nat}{rest:List Oper}{ρ:Env}{w:World}{v:Value}{d:Nat}{op:Op}{ty:TypeId}{pos:String}{af:Array Edge}{g:Option (Nat×Bool)}
def sel (l:List Oper):List Nat->List Oper
 | []=>[]
 |i::σ=>match l[i]? with
  |some o=>o::sel l σ
  |none=>[]
theorem jM (l:List Oper): ∀(σ:List Nat),(∀i∈σ,i<l.length)->(sel l σ).map some=σ.map λi=>l.toArray[i]?
 | [],_=>rfl
 |i::σ,h=>by
  have hi:=h i List.mem_cons_self;have a:=jM l σ (λj b=>h j (List.mem_cons_of_mem _ b));unfold sel;rw [gE hi];simp only [List.map_cons,a];simp [hi]
theorem WP_mix {id:Nat}{l:List Oper}(σ:List Nat)(κ:List Kd)(m: ∀i B,kdOf κ i= .mk B-> ∀w,I w->B<=w.heap.size)(n:P.follows .mixedOrders=true)(o:Region.noSelect l.toArray=true)(e:edgesB .any l.toArray=true)(p:pairB .any l.toArray (kdOf κ) σ=true)
    (b:σ.isPerm (List.range l.length)=true)(f: ∀w w',I w->gZ w w'->I w')(j:I w)(h:XL P I N l.toArray κ (λ_ ρ w=>Q .normal ρ w) (some λ_=>False) σ (sel l σ) ρ w):WP P N (.region id l.toArray true) Q ρ w:=by
 have b:σ.Perm (List.range l.length):=List.isPerm_iff.1 b;intro a q;refine jZ (I:=I) (σ:=σ) m n o e p b f j (λw' c=>?_);exact h (jM l σ λi hi=>List.mem_range.1 (b.mem_iff.1 hi)) w' c (f _ _ j c) a q
theorem WP_mix0 {id:Nat}{l:List Oper}(σ:List Nat)(κ:List Kd)(m: ∀i B,kdOf κ i= .mk B-> ∀w,I w->B<=w.heap.size)(n:P.follows .mixedOrders=true)(o:Region.noSelect l.toArray=true)(e:edgesB .any l.toArray=true)(p:pairB .any l.toArray (kdOf κ) σ=true)
    (b:σ=List.range l.length)(f: ∀w w',I w->gZ w w'->I w')(j:I w)(h:XL P I N l.toArray κ (λ_ ρ w=>Q .normal ρ w) (some λ_=>False) σ l ρ w):WP P N (.region id l.toArray true) Q ρ w:=by
 intro a q;refine jZ (I:=I) (σ:=σ) m n o e p (by rw [b]) f j (λw' c=>?_);refine h ?_ w' c (f _ _ j c) a q;rw [b];apply List.ext_getElem;simp;intro i _ _;simp

theorem XL_nil (h: ∀w',gZ w w'->K M ρ w'):XL P I N ops κ K M σ [] ρ w:=by
 intro b w' a _ _ c;have:σ=[]:=by
  have:=congrArg List.length b;simp at this;exact List.eq_nil_of_length_eq_zero this.symm
 subst this;exact⟨ρ,c,h w' a⟩
theorem XL.head {o:Oper}(a:(o::rest).map some=(k::σ).map λi=>ops[i]?):ops[k]? =some o:=by
 simp only [List.map_cons,List.cons.injEq]at a;exact a.1.symm
theorem XL.tail {o:Oper}(a:(o::rest).map some=(k::σ).map λi=>ops[i]?):rest.map some=σ.map λi=>ops[i]? :=by
 simp only [List.map_cons,List.cons.injEq]at a;exact a.2

theorem XL_pure (f:kdOf κ k= .pure)(i:fF N ops ρ ⟨some d,op,ty,pos,af,g⟩=true)(j:Nat.blt d N=true)(h: ∀w',I w'->Do P ⟨some d,op,ty,pos,af,g⟩ ρ w' v w')(n:XL P I N ops κ K M σ rest (upd ρ d v) w):
    XL P I N ops κ K M (k::σ) (⟨some d,op,ty,pos,af,g⟩::rest) ρ w:=by
 intro e w' b l _ c;simp only [fU];unfold xOp;simp only [XL.head e,f];exact⟨v,.inl ⟨by rw [c.wanted];exact i,λm o=>by rw [c.eval];exact h m o⟩,n (XL.tail e) w' b l _ (c.put (xE j) v)⟩
theorem XL_offp (f:kdOf κ k= .pure)(h:fF N ops ρ ⟨some d,op,ty,pos,af,g⟩=false)(i:Nat.blt d N=true)(n:XL P I N ops κ K M σ rest (upd ρ d undef) w):
    XL P I N ops κ K M (k::σ) (⟨some d,op,ty,pos,af,g⟩::rest) ρ w:=by
 intro c w' b j _ e;simp only [fU];unfold xOp;simp only [XL.head c,f];exact⟨undef,.inr ⟨by rw [e.wanted];exact h,rfl⟩,n (XL.tail c) w' b j _ (e.put (xE i) _)⟩
theorem XL_offf (h: ∀w w',I w->gZ w w'->I w')(i:kdOf κ k= .fcall)(j:fF N ops ρ ⟨some d,op,ty,pos,af,g⟩=false)(l:Nat.blt d N=true)(n:XL P I N ops κ K M σ rest (upd ρ d undef) w):
    XL P I N ops κ K M (k::σ) (⟨some d,op,ty,pos,af,g⟩::rest) ρ w:=by
 intro c w' b m _ e;simp only [fU];unfold xOp;simp only [XL.head c,i];exact⟨undef,.inr ⟨by rw [e.wanted];exact j,rfl⟩,λo f=>n (XL.tail c) o (b.trans f) (h _ _ m f) _ (e.put (xE l) _)⟩
theorem XL_offr (h: ∀w w',I w->gZ w w'->I w')(i:kdOf κ k= .read)(j:fF N ops ρ ⟨some d,op,ty,pos,af,g⟩=false)(l:Nat.blt d N=true)(n:XL P I N ops κ K M σ rest (upd ρ d undef) w):
    XL P I N ops κ K M (k::σ) (⟨some d,op,ty,pos,af,g⟩::rest) ρ w:=by
 intro c w' b m _ e;simp only [fU];unfold xOp;simp only [XL.head c,i];exact⟨undef,.inr ⟨by rw [e.wanted];exact j,rfl⟩,λo f=>n (XL.tail c) o (b.trans f) (h _ _ m f) _ (e.put (xE l) _)⟩
theorem XL_offn (h: ∀w w',I w->gZ w w'->I w')(i:kdOf κ k= .new)(j:fF N ops ρ ⟨some d,op,ty,pos,af,g⟩=false)(l:Nat.blt d N=true)(n:XL P I N ops κ K M σ rest (upd ρ d undef) w):
    XL P I N ops κ K M (k::σ) (⟨some d,op,ty,pos,af,g⟩::rest) ρ w:=by
 intro c w' b m _ e;simp only [fU];unfold xOp;simp only [XL.head c,i];exact .inr ⟨by rw [e.wanted];exact j,λo f=>n (XL.tail c) o (b.trans f) (h _ _ m f) _ (e.put (xE l) _)⟩
theorem XL_read (j: ∀w w',I w->gZ w w'->I w')(l:kdOf κ k= .read)(m:fF N ops ρ ⟨some d,op,ty,pos,af,g⟩=true)(o:Nat.blt d N=true)(h: ∀w',gZ w w'->Do P ⟨some d,op,ty,pos,af,g⟩ ρ w' v w')(n:XL P I N ops κ K M σ rest (upd ρ d v) w):
    XL P I N ops κ K M (k::σ) (⟨some d,op,ty,pos,af,g⟩::rest) ρ w:=by
 intro i w' b p _ f;simp only [fU];unfold xOp;simp only [XL.head i,l];refine⟨v,.inl ⟨by rw [f.wanted];exact m,λc e=>?_⟩,λc e=>n (XL.tail i) c (b.trans e) (j _ _ p e) _ (f.put (xE o) v)⟩;rw [f.eval,show(execOp (ev ρ) _).run P c=_ from h c (b.trans e)];exact⟨rfl,rfl⟩
theorem XL_call {f:FuncId}{args:Array Value}(o: ∀w w',I w->gZ w w'->I w')(p:kdOf κ k= .read)(q:fF N ops ρ ⟨some d,op,ty,pos,af,g⟩=true)(r:Nat.blt d N=true)(h: ∀w',gZ w w'->DoC P ⟨some d,op,ty,pos,af,g⟩ ρ w' f args)
    (s: ∀w',gZ w w'->Calls P f args w' λe j=>e= .returned v/\Below w'.heap.size w' j)(n:XL P I N ops κ K M σ rest (upd ρ d v) w):
    XL P I N ops κ K M (k::σ) (⟨some d,op,ty,pos,af,g⟩::rest) ρ w:=by
 intro m w' b t _ l;simp only [fU];unfold xOp;simp only [XL.head m,p];refine⟨v,.inl ⟨by rw [l.wanted];exact q,λc i=>?_⟩,λc i=>n (XL.tail m) c (b.trans i) (o _ _ t i) _ (l.put (xE r) v)⟩;rw [l.eval,show(execOp (ev ρ) _).run P c=_ from h c (b.trans i)];exact⟨rfl,(s c (b.trans i)).mono λe _ ⟨u,x⟩=>⟨u,x⟩⟩
theorem XL_fcall {f:FuncId}{args:Array Value}(o: ∀w w',I w->gZ w w'->I w')(p:kdOf κ k= .fcall)(q:fF N ops ρ ⟨some d,op,ty,pos,af,g⟩=true)(r:Nat.blt d N=true)(h: ∀w',I w'->DoC P ⟨some d,op,ty,pos,af,g⟩ ρ w' f args)
    (s: ∀w',I w'->Calls P f args w' λe i=>e= .returned v/\Below w'.heap.size w' i)(n:XL P I N ops κ K M σ rest (upd ρ d v) w):
    XL P I N ops κ K M (k::σ) (⟨some d,op,ty,pos,af,g⟩::rest) ρ w:=by
 intro m w' j t _ l;simp only [fU];unfold xOp;simp only [XL.head m,p];refine⟨v,.inl ⟨by rw [l.wanted];exact q,λb c=>?_⟩,λb c=>n (XL.tail m) b (j.trans c) (o _ _ t c) _ (l.put (xE r) v)⟩;rw [l.eval,show(execOp (ev ρ) _).run P b=_ from h b c];exact⟨rfl,(s b c).mono λe _ ⟨u,x⟩=>⟨u,x⟩⟩
theorem XL_splitb {b:Bool}{x:Operand}(a:kdOf κ k= .pure)(c:fF N ops ρ ⟨some d,.move x,ty,pos,af,g⟩=true)(e:Nat.blt d N=true)(f:ev ρ x= .bool b)
    (h:b=true->XL P I N ops κ K M σ rest (upd ρ d (.bool true)) w)(i:b=false->XL P I N ops κ K M σ rest (upd ρ d (.bool false)) w):XL P I N ops κ K M (k::σ) (⟨some d,.move x,ty,pos,af,g⟩::rest) ρ w:=by
 refine XL_pure (v:= .bool b) a c e (λ_ _=>by unfold Do;simp [execOp,f]) ?_;cases b;exact i rfl;exact h rfl
theorem XL_exN {R:World->Value->World->Prop}(j: ∀w w',I w->gZ w w'->I w')(o:kdOf κ k= .new)(p:fF N ops ρ ⟨some d,op,ty,pos,af,g⟩=true)(q:Nat.blt d N=true)
    (h: ∀b,gZ w b-> ∃v w',Do P ⟨some d,op,ty,pos,af,g⟩ ρ b v w'/\gZ b w'/\R b v w')(n: ∀b v w',gZ w b->R b v w'->XL P I N ops κ K M σ rest (upd ρ d v) w'):XL P I N ops κ K M (k::σ) (⟨some d,op,ty,pos,af,g⟩::rest) ρ w:=by
 intro l w' c r _ f;obtain⟨v,i,s,m,t⟩:=h w' c;simp only [fU];unfold xOp;simp only [XL.head l,o];exact .inl ⟨by rw [f.wanted];exact p,.inl ⟨v,i,by rw [f.eval];exact s,m,λu e=>n _ _ _ c t (XL.tail l) u e (j _ _ (j _ _ r m) e) _ (f.put (xE q) v)⟩⟩
theorem XL_newC {f:FuncId}{args:Array Value}{R:World->Ending->World->Prop}(l: ∀w w',I w->gZ w w'->I w')(p:kdOf κ k= .new)(q:fF N ops ρ ⟨some d,op,ty,pos,af,g⟩=true)(r:Nat.blt d N=true)(h: ∀w',gZ w w'->DoC P ⟨some d,op,ty,pos,af,g⟩ ρ w' f args)
    (s: ∀w',gZ w w'->Calls P f args w' (R w'))(n: ∀w' e b,gZ w w'->R w' e b-> ∃v,e= .returned v/\gZ w' b/\XL P I N ops κ K M σ rest (upd ρ d v) b):XL P I N ops κ K M (k::σ) (⟨some d,op,ty,pos,af,g⟩::rest) ρ w:=by
 intro m w' c t _ j;simp only [fU];unfold xOp;simp only [XL.head m,p];refine .inl ⟨by rw [j.wanted];exact q,.inr ⟨f,args,by rw [j.eval];exact h w' c,(s w' c).mono λe b u=>?_⟩⟩;obtain⟨v,x,o,y⟩:=n w' e b c u;exact⟨v,x,o,λz i=>y (XL.tail m) z i (l _ _ (l _ _ t o) i) _ (j.put (xE r) v)⟩
theorem XL_ex {R:World->Value->World->Prop}(m: ∀w w',I w->gZ w w'->I w')(o:kdOf κ k= .eff)(p:fF N ops ρ ⟨some d,op,ty,pos,af,g⟩=true)(q:Nat.blt d N=true)(h: ∀b,gZ w b-> ∃v w',Do P ⟨some d,op,ty,pos,af,g⟩ ρ b v w'/\R b v w')
    (n: ∀b v w',gZ w b->R b v w'->I w'/\XL P I N ops κ K none σ rest (upd ρ d v) w'):XL P I N ops κ K M (k::σ) (⟨some d,op,ty,pos,af,g⟩::rest) ρ w:=by
 intro l w' c _ _ f;obtain⟨v,i,r,s⟩:=h w' c;simp only [fU];unfold xOp;simp only [XL.head l,o];have j:=n _ _ _ c s;exact .inl ⟨by rw [f.wanted];exact p,.inl ⟨v,i,by rw [f.eval];exact r,j.1,none,dB.no,λt e=>j.2 (XL.tail l) t e (m _ _ j.1 e) _ (f.put (xE q) v)⟩⟩
theorem XL_exU {R:World->World->Prop}(m: ∀w w',I w->gZ w w'->I w')(o:kdOf κ k= .eff)(p:fF N ops ρ ⟨none,op,ty,pos,af,g⟩=true)(h: ∀b,gZ w b-> ∃w',DoU P ⟨none,op,ty,pos,af,g⟩ ρ b w'/\R b w')
    (n: ∀b w',gZ w b->R b w'->I w'/\XL P I N ops κ K none σ rest ρ w'):XL P I N ops κ K M (k::σ) (⟨none,op,ty,pos,af,g⟩::rest) ρ w:=by
 intro l w' c _ _ f;obtain⟨i,q,r⟩:=h w' c;simp only [fU];unfold xOp;simp only [XL.head l,o];have j:=n _ _ c r;exact .inl ⟨by rw [f.wanted];exact p,.inr (.inl ⟨i,by rw [f.eval];exact q,j.1,none,dB.no,λs e=>j.2 (XL.tail l) s e (m _ _ j.1 e) _ f⟩)⟩
theorem XL_effC {f:FuncId}{args:Array Value}{R:World->Ending->World->Prop}(o: ∀w w',I w->gZ w w'->I w')(p:kdOf κ k= .eff)(q:fF N ops ρ ⟨some d,op,ty,pos,af,g⟩=true)(r:Nat.blt d N=true)(h: ∀w',gZ w w'->DoC P ⟨some d,op,ty,pos,af,g⟩ ρ w' f args)
    (s: ∀w',gZ w w'->Calls P f args w' (R w'))(n: ∀w' e b,gZ w w'->R w' e b-> ∃v,e= .returned v/\I b/\XL P I N ops κ K none σ rest (upd ρ d v) b):XL P I N ops κ K M (k::σ) (⟨some d,op,ty,pos,af,g⟩::rest) ρ w:=by
 intro l w' c _ _ j;simp only [fU];unfold xOp;simp only [XL.head l,p];refine .inl ⟨by rw [j.wanted];exact q,.inr (.inr ⟨f,args,by rw [j.eval];exact h w' c,(s w' c).mono λe b t=>?_⟩)⟩;obtain⟨v,u,m,x⟩:=n w' e b c t;exact⟨v,u,m,none,dB.no,λy i=>x (XL.tail l) y i (o _ _ m i) _ (j.put (xE r) v)⟩
theorem XL_exP {R:Value->Prop}(a:kdOf κ k= .pure)(b:fF N ops ρ ⟨some d,op,ty,pos,af,g⟩=true)(c:Nat.blt d N=true)(h: ∃v,(∀w',Do P ⟨some d,op,ty,pos,af,g⟩ ρ w' v w')/\R v)(n: ∀v,R v->XL P I N ops κ K M σ rest (upd ρ d v) w):
    XL P I N ops κ K M (k::σ) (⟨some d,op,ty,pos,af,g⟩::rest) ρ w:=by
 obtain⟨v,e,f⟩:=h;exact XL_pure a b c (λw' _=>e w') (n v f)
theorem upd_comm (ρ:Env){d e:Nat}(h:d≠e)(u v:Value):upd (upd ρ d u) e v=upd (upd ρ e v) d u:=by
 funext x;unfold upd;by_cases b:x=e<;>by_cases c:x=d<;>simp [b,c];exact absurd (c.symm.trans b) h;intro a;exact absurd a.symm h;intro a;exact absurd a h
theorem XL_join {u v du dv:Nat}{j l:Oper}(f:Value->Value->World->Prop)
  (A:XL P I N ops κ (λ_ b w'=> ∃c vb,b=upd (upd ρ du c) dv vb/\I w'/\f c vb w') M [u,v] [j,l] ρ w)
  (B:XL P I N ops κ (λ_ b w'=> ∃c vb,b=upd (upd ρ du c) dv vb/\I w'/\f c vb w') M [v,u] [l,j] ρ w)
  (post: ∀n c vb w',f c vb w'->XL P I N ops κ K n σ rest (upd (upd ρ du c) dv vb) w'):
  XL P I N ops κ K M (u::v::σ) (j::l::rest) ρ w/\XL P I N ops κ K M (v::u::σ) (l::j::rest) ρ w:=by
 have z: ∀{p q:Nat}{op oq:Oper},XL P I N ops κ (λ_ b w'=> ∃c vb,b=upd (upd ρ du c) dv vb/\I w'/\f c vb w') M [p,q] [op,oq] ρ w->XL P I N ops κ K M (p::q::σ) (op::oq::rest) ρ w:=by
  intro p q op oq h m w' o C a D;have r:rest.map some=σ.map λi=>ops[i]? :=XL.tail (XL.tail m)
  have s:[op,oq].map some=[p,q].map λi=>ops[i]? :=by
   simp only [List.map_cons,List.cons.injEq,List.map_nil]at m⊢;exact⟨m.1,m.2.1,trivial⟩
  have E:=h s w' o C a D;have e:p::q::σ=[p,q]++σ:=rfl;rw [e,bP];refine dG (λn a t ⟨b,F,c,vb,x,y,G⟩=>?_) [p,q] M a w' E;subst x;exact post n c vb t G r t (gZ.refl t) y a F
 exact⟨z A,z B⟩
theorem WP_fork {id:Nat}{l:List Oper}{I0:World->Prop}(pre:List Nat)(u v:Nat)(post l2:List Nat)(κ:List Kd)(p: ∀i B,kdOf κ i= .mk B-> ∀w,I w->B<=w.heap.size)(q: ∀i B,kdOf κ i= .mk B-> ∀w,I0 w->B<=w.heap.size)(D:P.follows .mixedOrders=true)(E:Region.noSelect l.toArray=true)(r:edgesB .any l.toArray=true)(F:forkB .any l.toArray (kdOf κ) pre u v post=true)(G:barB .any l.toArray (kdOf κ) (pre++u::v::post) l2=true)(s:pairB .any l.toArray (kdOf κ) l2=true)
  (c:(pre++u::v::(post++l2)).isPerm (List.range l.length)=true)(n: ∀w w',I w->gZ w w'->I w')(t: ∀w w',I0 w->gZ w w'->I0 w')(y:I w)
  (h:XL P I N l.toArray κ (λM ρ w=>XL P I N l.toArray κ (λ_ ρ w=>I0 w/\XL P I0 N l.toArray κ (λ_ ρ w=>Q .normal ρ w) none l2 (sel l l2) ρ w) M (u::v::post) (sel l (u::v::post)) ρ w/\XL P I N l.toArray κ (λ_ ρ w=>I0 w/\XL P I0 N l.toArray κ (λ_ ρ w=>Q .normal ρ w) none l2 (sel l l2) ρ w) M (v::u::post) (sel l (v::u::post)) ρ w) (some λ_=>False) pre (sel l pre) ρ w):WP P N (.region id l.toArray true) Q ρ w:=by
 have c:(pre++u::v::(post++l2)).Perm (List.range l.length):=List.isPerm_iff.1 c;have f: ∀i∈pre++u::v::(post++l2),i<l.length:=λi hi=>List.mem_range.1 (c.mem_iff.1 hi)
 intro a H;refine nY (I:=I) (I0:=I0) (pre:=pre) (post:=post) (l2:=l2) (u:=u) (v:=v) p q D E r F G s c n t y (λw' j=>?_);have J:=h (jM l pre λi hi=>f i (List.mem_append_left _ hi)) w' j (n _ _ y j) a H;have L:=sV n pre _ a w' (n _ _ y j) (λ_ e _ z=>by cases e;exact z.elim) J;have fin: ∀{a w},(∃b,Fits N a b/\(I0 w/\XL P I0 N l.toArray κ (λ_ ρ w=>Q .normal ρ w) none l2 (sel l l2) b w))->I0 w/\fU P I0 l.toArray (kdOf κ) (λ_ a w=> ∃b,Fits N a b/\Q .normal b w) l2 none a w:=λ {a w} ⟨b,o,C,z⟩=>
  ⟨C,z (jM l l2 λi hi=>f i (List.mem_append_right _ (List.mem_cons_of_mem _ (List.mem_cons_of_mem _ (List.mem_append_right _ hi))))) w (gZ.refl w) C a o⟩
 refine dG (λM a w ⟨m,b,o,O,p⟩=>⟨?_,?_⟩) pre _ a w' L
 ·exact dG (λ_ _ _ h=>fin h) _ _ _ _ (O (jM l _ λi hi=>f i (List.mem_append_right _ (by simp at hi⊢;rcases hi with h|h|h<;>simp [h]))) w (gZ.refl w) m a o)
 ·exact dG (λ_ _ _ h=>fin h) _ _ _ _ (p (jM l _ λi hi=>f i (List.mem_append_right _ (by simp at hi⊢;rcases hi with h|h|h<;>simp [h]))) w (gZ.refl w) m a o)
end
end Go.MxM
