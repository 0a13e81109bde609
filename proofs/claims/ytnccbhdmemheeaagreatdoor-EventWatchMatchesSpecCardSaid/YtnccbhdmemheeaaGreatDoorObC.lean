/- Laws that the claim stands on; no condition beyond those stated. -/
import Derived.Test.YtnccbhdmemheeaaGreatDoorObB
namespace Go.MxM
open Go.OB
open Go.RowKit

inductive Kd where
 |pure|fcall|read|new|eff
 |mk (B:Nat)
inductive Mk where
 |ptr
 |sl (n:Nat)
def Mk.val:Mk->Nat->Value
 | .ptr,b=> .pointer (some ⟨b,0,none⟩)
 | .sl n,b=> .slice (some ⟨b,0,none⟩) n n
theorem Mk.inj {m m':Mk}{b:Nat}(h:m.val b=m'.val b):m=m':=by
 cases m<;>cases m'<;>simp [Mk.val]at h⊢;exact h
abbrev Mm:=Option (Nat->Prop)
def Kd.isMk:Kd->Bool
 | .mk _=>true|_=>false
theorem alloc_inj {w:World}{cs a:List Value}{T c:TypeId}(h:w.alloc (.cells cs.toArray T)=w.alloc (.cells a.toArray c)):cs=a/\T=c:=by
 have e:=(Al.mk' w cs T).blk;rw [h]at e;have b:=(Al.mk' w a c).blk;unfold Blk at e b;rw [e]at b;simp at b;exact b
theorem Blk.Z {w w':World}{b:Nat}{cs:List Value}{T:TypeId}(h:Blk w b cs T)(a:fO w w'):Blk w' b cs T:=h.only (Only.of_below a) (by simp)
def Kd.isPure:Kd->Bool
 | .pure=>true|_=>false
def Kd.isFcall:Kd->Bool
 | .fcall=>true|_=>false
def Kd.isRead:Kd->Bool
 | .read=>true|_=>false
def Kd.isNew:Kd->Bool
 | .new=>true|_=>false
def aDq (P:Program)(I:World->Prop)(ops:Array Oper)(o:Oper)(v:Value)(a:Act):Prop:=
 (Region.wanted o (yielded ops a.tmps)=true/\ ∀w',I w'->(execOp a.eval o).run P w'= .ok (.value v) w')\/(Region.wanted o (yielded ops a.tmps)=false/\v=undef)
def aNm (P:Program)(I:World->Prop)(ops:Array Oper)(o:Oper)(v:Value)(a:Act):Prop:=
 (Region.wanted o (yielded ops a.tmps)=true/\ ∀w',I w'->aCr P w' v ((execOp a.eval o).run P w'))\/(Region.wanted o (yielded ops a.tmps)=false/\v=undef)

def pV (M:Mm)(w:World):Prop:= ∀A,M=some A-> ∀x,A x->x<w.heap.size
theorem pV.Z {M:Mm}{w w':World}(h:pV M w)(a:fO w w'):pV M w':=λA e x b=>Nat.lt_of_lt_of_le (h A e x b) a.size
theorem pV.no {w:World}:pV none w:=λ_ e=>by cases e
theorem pV.mk {A:Nat->Prop}{w w':World}{b:Nat}{cs:List Value}{T:TypeId}(h:pV (some A) w)(c:fO w w')(f:Blk w' b cs T):pV (some λx=>x=b\/A x) w':=by
 intro _ e x a
 cases e
 rcases a with rfl|a
 ·exact(Array.getElem?_eq_some_iff.1 f).1
 ·exact(h.Z c) A rfl x a
theorem pV.new {A:Nat->Prop}{w:World}(h:pV (some A) w): ¬A w.heap.size:=λa=>Nat.lt_irrefl _ (h A rfl _ a)

def xOp (P:Program)(I:World->Prop)(ops:Array Oper)(kd:Nat->Kd)(i:Nat)(K:Mm->Act->World->Prop)(M:Mm)(a:Act)(w:World):Prop:=
  match ops[i]? with
  |none=>False
  |some o=>match kd i with
    | .pure=> ∃v,aDq P I ops o v a/\K M (a.put o.dst v) w
    | .fcall=> ∃v,aNm P I ops o v a/\ ∀w',fO w w'->K M (a.put o.dst v) w'
    | .read=> ∃v,aBy P ops w o v a/\ ∀w',fO w w'->K M (a.put o.dst v) w'
    | .new=>(Region.wanted o (yielded ops a.tmps)=true/\
        ((∃v w',(execOp a.eval o).run P w= .ok (.value v) w'/\fO w w'/\ ∀c,fO w' c->K M (a.put o.dst v) c)\/
         (∃f args,(execOp a.eval o).run P w= .ok (.enter f args) w/\Calls P f args w λe w'=> ∃v,e= .returned v/\fO w w'/\ ∀c,fO w' c->K M (a.put o.dst v) c)))\/
        (Region.wanted o (yielded ops a.tmps)=false/\ ∀c,fO w c->K M (a.put o.dst undef) c)
    | .eff=>(Region.wanted o (yielded ops a.tmps)=true/\
        ((∃v w',(execOp a.eval o).run P w= .ok (.value v) w'/\I w'/\ ∃h,pV h w'/\ ∀c,fO w' c->K h (a.put o.dst v) c)\/(∃w',(execOp a.eval o).run P w= .ok .skip w'/\I w'/\ ∃h,pV h w'/\ ∀c,fO w' c->K h (a.put o.dst undef) c)\/
         (∃f args,(execOp a.eval o).run P w= .ok (.enter f args) w/\Calls P f args w λe w'=> ∃v,e= .returned v/\I w'/\ ∃h,pV h w'/\ ∀c,fO w' c->K h (a.put o.dst v) c)))\/
        (Region.wanted o (yielded ops a.tmps)=false/\ ∀c,fO w c->K M (a.put o.dst undef) c)
    | .mk B=>(Region.wanted o (yielded ops a.tmps)=true/\ ∃(A:Nat->Prop) (m:Mk) (cs:List Value) (T:TypeId),M=some A/\(∀w',I w'->(execOp a.eval o).run P w'= .ok (.value (m.val w'.heap.size)) (w'.alloc (.cells cs.toArray T)))/\
        ∀b c,fO w c->B<=b-> ¬A b->Blk c b cs T->K (some λx=>x=b\/A x) (a.put o.dst (m.val b)) c)\/
        (Region.wanted o (yielded ops a.tmps)=false/\ ∀c,fO w c->K M (a.put o.dst undef) c)

def kE (P:Program)(I:World->Prop)(ops:Array Oper)(kd:Nat->Kd)(Q:Mm->Act->World->Prop):List Nat->Mm->Act->World->Prop
 | [],M,a,w=>Q M a w
 |i::l,M,a,w=>xOp P I ops kd i (kE P I ops kd Q l) M a w

section
variable {P:Program}{I:World->Prop}{ops:Array Oper}{kd:Nat->Kd}{Q:Mm->Act->World->Prop}

theorem aMs {i:Nat}{K x:Mm->Act->World->Prop}{M:Mm}{a:Act}{w:World} (h: ∀o M v w,ops[i]? =some o->K M (a.put o.dst v) w->x M (a.put o.dst v) w) (hh:xOp P I ops kd i K M a w):xOp P I ops kd i x M a w:=by
 unfold xOp at *
 cases ho:ops[i]? with
 |none=>simp only [ho]at hh
 |some o=>
  have h:=λM v w=>h o M v w ho
  simp only [ho]at hh⊢
  cases s:kd i<;>simp only [s]at hh⊢
  ·obtain⟨v,l,n⟩:=hh;exact⟨v,l,h _ _ _ n⟩
  ·obtain⟨v,l,n⟩:=hh;exact⟨v,l,λw' j=>h _ _ _ (n w' j)⟩
  ·obtain⟨v,l,n⟩:=hh;exact⟨v,l,λw' j=>h _ _ _ (n w' j)⟩
  ·rcases hh with ⟨p,hh⟩|⟨p,hh⟩
   rotate_left
   ·exact .inr ⟨p,λc j=>h _ _ _ (hh c j)⟩
   refine .inl ⟨p,?_⟩;rcases hh with ⟨v,w',l,r,n⟩|⟨f,args,l,n⟩
   ·exact .inl ⟨v,w',l,r,λc j=>h _ _ _ (n c j)⟩
   ·exact .inr ⟨f,args,l,n.mono λe w' ⟨v,u,r,s⟩=>⟨v,u,r,λc j=>h _ _ _ (s c j)⟩⟩
  ·rcases hh with ⟨p,hh⟩|⟨p,hh⟩
   rotate_left
   ·exact .inr ⟨p,λc j=>h _ _ _ (hh c j)⟩
   refine .inl ⟨p,?_⟩;rcases hh with ⟨v,w',l,r,t,q,n⟩|⟨w',l,r,t,q,n⟩|⟨f,args,l,n⟩
   ·exact .inl ⟨v,w',l,r,t,q,λc j=>h _ _ _ (n c j)⟩
   ·exact .inr (.inl ⟨w',l,r,t,q,λc j=>h _ _ _ (n c j)⟩)
   ·exact .inr (.inr ⟨f,args,l,n.mono λe w' ⟨v,u,r,t,q,s⟩=>⟨v,u,r,t,q,λc j=>h _ _ _ (s c j)⟩⟩)
  ·rcases hh with ⟨p,A,m,cs,T,y,l,n⟩|⟨p,hh⟩
   ·exact .inl ⟨p,A,m,cs,T,y,l,λb c z B C D=>h _ _ _ (n b c z B C D)⟩
   ·exact .inr ⟨p,λc j=>h _ _ _ (hh c j)⟩

theorem aNa {i:Nat}{K b:Mm->Act->World->Prop}(h: ∀M a w,K M a w->b M a w){M:Mm}{a:Act}{w:World}(hh:xOp P I ops kd i K M a w):xOp P I ops kd i b M a w:=aMs (λ_ _ _ _ _=>h _ _ _) hh

theorem bAk {i:Nat}{K:Mm->Act->World->Prop}{M:Mm}{a:Act}{w:World} (q: ∀w w',I w->fO w w'->I w') (s:I w) (t:pV M w) (hh:xOp P I ops kd i K M a w):xOp P I ops kd i (λM a w=>I w/\pV M w/\K M a w) M a w:=by
 unfold xOp at *
 cases ho:ops[i]? with
 |none=>simp only [ho]at hh
 |some _=>
  simp only [ho]at hh⊢
  cases u:kd i<;>simp only [u]at hh⊢
  ·obtain⟨v,j,l⟩:=hh;exact⟨v,j,s,t,l⟩
  ·obtain⟨v,j,l⟩:=hh;exact⟨v,j,λw' c=>⟨q _ _ s c,t.Z c,l w' c⟩⟩
  ·obtain⟨v,j,l⟩:=hh;exact⟨v,j,λw' c=>⟨q _ _ s c,t.Z c,l w' c⟩⟩
  ·rcases hh with ⟨r,hh⟩|⟨r,hh⟩
   rotate_left
   ·exact .inr ⟨r,λh c=>⟨q _ _ s c,t.Z c,hh h c⟩⟩
   refine .inl ⟨r,?_⟩;rcases hh with ⟨v,w',j,p,l⟩|⟨f,args,j,l⟩
   ·exact .inl ⟨v,w',j,p,λh c=>⟨q _ _ (q _ _ s p) c,(t.Z p).Z c,l h c⟩⟩
   ·exact .inr ⟨f,args,j,l.mono λe w' ⟨v,y,p,u⟩=>⟨v,y,p,λh c=>⟨q _ _ (q _ _ s p) c,(t.Z p).Z c,u h c⟩⟩⟩
  ·rcases hh with ⟨r,hh⟩|⟨r,hh⟩
   rotate_left
   ·exact .inr ⟨r,λh c=>⟨q _ _ s c,t.Z c,hh h c⟩⟩
   refine .inl ⟨r,?_⟩;rcases hh with ⟨v,w',j,p,x,n,l⟩|⟨w',j,p,x,n,l⟩|⟨f,args,j,l⟩
   ·exact .inl ⟨v,w',j,p,x,n,λh c=>⟨q _ _ p c,n.Z c,l h c⟩⟩
   ·exact .inr (.inl ⟨w',j,p,x,n,λh c=>⟨q _ _ p c,n.Z c,l h c⟩⟩)
   ·exact .inr (.inr ⟨f,args,j,l.mono λe w' ⟨v,y,p,x,n,u⟩=>⟨v,y,p,x,n,λh c=>⟨q _ _ p c,n.Z c,u h c⟩⟩⟩)
  ·rcases hh with ⟨r,A,m,cs,T,C,j,l⟩|⟨r,hh⟩
   ·subst C;exact .inl ⟨r,A,m,cs,T,rfl,j,λb h z D E B=>⟨q _ _ s z,t.mk z B,l b h z D E B⟩⟩
   ·exact .inr ⟨r,λh c=>⟨q _ _ s c,t.Z c,hh h c⟩⟩
theorem aIf {i:Nat}{o:Oper} (h:ops[i]? =some o) {K:Act->World->Prop}{Qx:Exit->Act->World->Prop}{a:Act}{w:World}{v:Value}
  (j:(Region.wanted o (yielded ops a.tmps)=true/\aCr P w v ((execOp a.eval o).run P w))\/(Region.wanted o (yielded ops a.tmps)=false/\v=undef)) (b: ∀w',fO w w'->K (a.put o.dst v) w'):wpOp P ops Qx i K a w:=by
 unfold wpOp;simp only [h];rcases j with ⟨c,this⟩|⟨c,rfl⟩
 ·rw [if_pos c];refine .inl ?_;unfold Oper.wp;generalize (execOp a.eval o).run P w=r at this
  cases r with
  |ok n w'=>
   cases n<;>simp only [aCr]at this<;>simp only [Oper.upon]
   case value u=>obtain⟨rfl,rfl⟩:=this;exact b _ (fO.refl _)
   case skip=>obtain⟨rfl,rfl⟩:=this;exact b _ (fO.refl _)
   case enter f args=>
    obtain⟨rfl,l⟩:=this;exact l.mono λ_ _ ⟨q,s⟩=>by subst q;exact b _ s
  |halt _ w'=>simp only [aCr]at this
 ·rw [if_neg (by rw [c];exact Bool.false_ne_true)];exact b _ (fO.refl _)
theorem sees_alloc (w:World)(o:Obj):fO w (w.alloc o):=(Below.refl _ w).alloc (Nat.le_refl _) _
theorem aKl {i:Nat}{K:Mm->Act->World->Prop}{Qx:Exit->Act->World->Prop}{M:Mm}{a:Act}{w:World} (E: ∀i B,kd i= .mk B-> ∀w,I w->B<=w.heap.size) (x: ∀w w',I w->fO w w'->I w') (b:I w) (c:pV M w) (h:xOp P I ops kd i K M a w):wpOp P ops Qx i (λa w=> ∃M,I w/\pV M w/\K M a w) a w:=by
 unfold xOp at h
 cases ho:ops[i]? with
 |none=>simp only [ho]at h
 |some _=>
  simp only [ho]at h
  cases u:kd i<;>simp only [u]at h
  ·obtain⟨v,y,t⟩:=h;unfold wpOp;simp only [ho];rcases y with ⟨s,z⟩|⟨s,rfl⟩
   ·rw [if_pos s];refine .inl ?_;unfold Oper.wp;rw [z w b];exact⟨M,b,c,t⟩
   ·rw [if_neg (by rw [s];exact Bool.false_ne_true)];exact⟨M,b,c,t⟩
  ·obtain⟨v,y,t⟩:=h;exact aIf ho (y.imp (λ⟨s,z⟩=>⟨s,z w b⟩) id) λw' j=>⟨M,x _ _ b j,c.Z j,t w' j⟩
  ·obtain⟨v,y,t⟩:=h;exact aIf ho (y.imp (λ⟨s,z⟩=>⟨s,z w (fO.refl w)⟩) id) λw' j=>⟨M,x _ _ b j,c.Z j,t w' j⟩
  ·unfold wpOp;simp only [ho];rcases h with ⟨l,h⟩|⟨l,h⟩
   rotate_left
   ·rw [if_neg (by rw [l];exact Bool.false_ne_true)];exact⟨M,b,c,h _ (fO.refl _)⟩
   rw [if_pos l];refine .inl ?_;unfold Oper.wp;rcases h with ⟨v,w',n,p,q⟩|⟨f,args,n,q⟩
   ·rw [n];exact⟨M,x _ _ b p,c.Z p,q _ (fO.refl _)⟩
   ·rw [n];exact q.mono λe w' ⟨v,D,p,u⟩=>by subst D;exact⟨M,x _ _ b p,c.Z p,u _ (fO.refl _)⟩
  ·unfold wpOp;simp only [ho];rcases h with ⟨l,h⟩|⟨l,h⟩
   rotate_left
   ·rw [if_neg (by rw [l];exact Bool.false_ne_true)];exact⟨M,b,c,h _ (fO.refl _)⟩
   rw [if_pos l];refine .inl ?_;unfold Oper.wp;rcases h with ⟨v,w',n,p,C,r,q⟩|⟨w',n,p,C,r,q⟩|⟨f,args,n,q⟩
   ·rw [n];exact⟨C,p,r,q _ (fO.refl _)⟩
   ·rw [n];exact⟨C,p,r,q _ (fO.refl _)⟩
   ·rw [n];exact q.mono λe w' ⟨v,D,p,C,r,u⟩=>by subst D;exact⟨C,p,r,u _ (fO.refl _)⟩
  ·unfold wpOp;simp only [ho];rcases h with ⟨l,_,m,cs,T,rfl,n,q⟩|⟨l,h⟩
   ·rw [if_pos l];refine .inl ?_;unfold Oper.wp;rw [n w b];have j:=sees_alloc w (.cells cs.toArray T);exact⟨_,x _ _ b j,c.mk j (Al.mk' w cs T).blk,q _ _ j (E i _ u w b) c.new (Al.mk' w cs T).blk⟩
   ·rw [if_neg (by rw [l];exact Bool.false_ne_true)];exact⟨M,b,c,h _ (fO.refl _)⟩

theorem aDq.of_same {o:Oper}{v:Value}{a a':Act}(b:aDq P I ops o v a)(c:execOp a'.eval o=execOp a.eval o)
    (e:Region.wanted o (yielded ops a'.tmps)=Region.wanted o (yielded ops a.tmps)):aDq P I ops o v a':=by
 unfold aDq at *;rw [c,e];exact b
theorem aNm.of_same {o:Oper}{v:Value}{a a':Act}(b:aNm P I ops o v a)(c:execOp a'.eval o=execOp a.eval o)
    (e:Region.wanted o (yielded ops a'.tmps)=Region.wanted o (yielded ops a.tmps)):aNm P I ops o v a':=by
 unfold aNm at *;rw [c,e];exact b
def aIv (ops:Array Oper)(kd:Nat->Kd)(i j:Nat):Bool:=
 match ops[i]?,ops[j]? with
 |some a,some b=>a.apart ops b&&b.apart ops a&&((kd i).isPure||(kd j).isPure||(kd i).isFcall||((kd i).isRead&&((kd j).isFcall||(kd j).isRead||(kd j).isNew||(kd j).isMk))||((kd i).isMk&&(kd j).isMk))
 |_,_=>false

theorem xOp_put {i:Nat}{q x:Oper} (hi:ops[i]? =some q) (E:q.apart ops x=true) (F: ∀cs b,q.op≠ .select cs b) {u:Value}
  {K:Mm->Act->World->Prop}{M:Mm}{a:Act}{w:World} (h:xOp P I ops kd i (λM a' w'=>K M (a'.put x.dst u) w') M a w):xOp P I ops kd i K M (a.put x.dst u) w:=by
 obtain⟨n,l,o⟩:=Oper.apart_spec E;have t:execOp (a.put x.dst u).eval q=execOp a.eval q:=execOp_put q F a x.dst u o;have y:Region.wanted q (yielded ops (a.put x.dst u).tmps)=Region.wanted q (yielded ops a.tmps):=wanted_put q a x.dst u o;have p: ∀v,(a.put x.dst u).put q.dst v=(a.put q.dst v).put x.dst u:=λv=>(Act.put_comm a v u l).symm
 unfold xOp at *
 simp only [hi]at h⊢
 cases C:kd i<;>simp only [C]at h⊢
 ·obtain⟨v,z,B⟩:=h;exact⟨v,z.of_same t y,by rw [p];exact B⟩
 ·obtain⟨v,z,B⟩:=h;exact⟨v,z.of_same t y,λw' j=>by rw [p];exact B w' j⟩
 ·obtain⟨v,z,B⟩:=h;exact⟨v,z.of_same t y,λw' j=>by rw [p];exact B w' j⟩
 ·rw [t,y];rcases h with ⟨r,h⟩|⟨r,h⟩
  rotate_left
  ·exact .inr ⟨r,λc j=>by rw [p];exact h c j⟩
  refine .inl ⟨r,?_⟩;rcases h with ⟨v,w',n,o,l⟩|⟨f,args,n,l⟩
  ·exact .inl ⟨v,w',n,o,λc j=>by rw [p];exact l c j⟩
  ·exact .inr ⟨f,args,n,l.mono λe w' ⟨v,t,o,C⟩=>⟨v,t,o,λc j=>by rw [p];exact C c j⟩⟩
 ·rw [t,y];rcases h with ⟨r,h⟩|⟨r,h⟩
  rotate_left
  ·exact .inr ⟨r,λc j=>by rw [p];exact h c j⟩
  refine .inl ⟨r,?_⟩;rcases h with ⟨v,w',n,o,D,s,l⟩|⟨w',n,o,D,s,l⟩|⟨f,args,n,l⟩
  ·exact .inl ⟨v,w',n,o,D,s,λc j=>by rw [p];exact l c j⟩
  ·exact .inr (.inl ⟨w',n,o,D,s,λc j=>by rw [p];exact l c j⟩)
  ·exact .inr (.inr ⟨f,args,n,l.mono λe w' ⟨v,t,o,D,s,C⟩=>⟨v,t,o,D,s,λc j=>by rw [p];exact C c j⟩⟩)
 ·rw [t,y];rcases h with ⟨r,A,m,cs,T,G,n,l⟩|⟨r,h⟩
  ·exact .inl ⟨r,A,m,cs,T,G,n,λb c H J L O=>by rw [p];exact l b c H J L O⟩
  ·exact .inr ⟨r,λc j=>by rw [p];exact h c j⟩
theorem aHf {i:Nat}{q x:Oper} (hi:ops[i]? =some q) (E:q.apart ops x=true) (F: ∀cs b,q.op≠ .select cs b) {u:Value}
  {K:Mm->Act->World->Prop}{M:Mm}{a:Act}{w:World} (h:xOp P I ops kd i K M (a.put x.dst u) w):xOp P I ops kd i (λM a' w'=>K M (a'.put x.dst u) w') M a w:=by
 obtain⟨n,l,o⟩:=Oper.apart_spec E;have t:execOp (a.put x.dst u).eval q=execOp a.eval q:=execOp_put q F a x.dst u o;have y:Region.wanted q (yielded ops (a.put x.dst u).tmps)=Region.wanted q (yielded ops a.tmps):=wanted_put q a x.dst u o;have p: ∀v,(a.put x.dst u).put q.dst v=(a.put q.dst v).put x.dst u:=λv=>(Act.put_comm a v u l).symm
 unfold xOp at *
 simp only [hi]at h⊢
 cases C:kd i<;>simp only [C]at h⊢
 ·obtain⟨v,z,B⟩:=h;exact⟨v,z.of_same t.symm y.symm,by rw [<-p];exact B⟩
 ·obtain⟨v,z,B⟩:=h;exact⟨v,z.of_same t.symm y.symm,λw' j=>by rw [<-p];exact B w' j⟩
 ·obtain⟨v,z,B⟩:=h;exact⟨v,z.of_same t.symm y.symm,λw' j=>by rw [<-p];exact B w' j⟩
 ·rw [t,y]at h;rcases h with ⟨r,h⟩|⟨r,h⟩
  rotate_left
  ·exact .inr ⟨r,λc j=>by rw [<-p];exact h c j⟩
  refine .inl ⟨r,?_⟩;rcases h with ⟨v,w',n,o,l⟩|⟨f,args,n,l⟩
  ·exact .inl ⟨v,w',n,o,λc j=>by rw [<-p];exact l c j⟩
  ·exact .inr ⟨f,args,n,l.mono λe w' ⟨v,t,o,C⟩=>⟨v,t,o,λc j=>by rw [<-p];exact C c j⟩⟩
 ·rw [t,y]at h;rcases h with ⟨r,h⟩|⟨r,h⟩
  rotate_left
  ·exact .inr ⟨r,λc j=>by rw [<-p];exact h c j⟩
  refine .inl ⟨r,?_⟩;rcases h with ⟨v,w',n,o,D,s,l⟩|⟨w',n,o,D,s,l⟩|⟨f,args,n,l⟩
  ·exact .inl ⟨v,w',n,o,D,s,λc j=>by rw [<-p];exact l c j⟩
  ·exact .inr (.inl ⟨w',n,o,D,s,λc j=>by rw [<-p];exact l c j⟩)
  ·exact .inr (.inr ⟨f,args,n,l.mono λe w' ⟨v,t,o,D,s,C⟩=>⟨v,t,o,D,s,λc j=>by rw [<-p];exact C c j⟩⟩)
 ·rw [t,y]at h;rcases h with ⟨r,A,m,cs,T,G,n,l⟩|⟨r,h⟩
  ·exact .inl ⟨r,A,m,cs,T,G,n,λb c H J L O=>by rw [<-p];exact l b c H J L O⟩
  ·exact .inr ⟨r,λc j=>by rw [<-p];exact h c j⟩

theorem xOp_some {i:Nat}{r:Oper} (hi:ops[i]? =some r) {K:Mm->Act->World->Prop}{M:Mm}{a:Act}{w:World} (t: ∀i B,kd i= .mk B-> ∀w,I w->B<=w.heap.size) (q: ∀w w',I w->fO w w'->I w') (c:I w) (u:pV M w) (h:xOp P I ops kd i K M a w): ∃v w' p,I w'/\K p (a.put r.dst v) w':=by
 unfold xOp at h;simp only [hi]at h
 cases l:kd i<;>simp only [l]at h
 ·obtain⟨v,_,n⟩:=h;exact⟨v,w,_,c,n⟩
 ·obtain⟨v,_,n⟩:=h;exact⟨v,w,_,c,n w (fO.refl w)⟩
 ·obtain⟨v,_,n⟩:=h;exact⟨v,w,_,c,n w (fO.refl w)⟩
 ·rcases h with h|⟨_,h⟩
  rotate_left
  ·exact⟨_,w,_,c,h _ (fO.refl _)⟩
  rcases h.2 with ⟨v,w',_,j,b⟩|⟨f,args,_,b⟩
  ·exact⟨v,w',_,q _ _ c j,b _ (fO.refl _)⟩
  ·obtain⟨e,w',fr,⟨v,_,j,l⟩,_⟩:=b [];exact⟨v,w',_,q _ _ c j,l _ (fO.refl _)⟩
 ·rcases h with h|⟨_,h⟩
  rotate_left
  ·exact⟨_,w,_,c,h _ (fO.refl _)⟩
  rcases h.2 with ⟨v,w',_,j,p,o,b⟩|⟨w',_,j,p,o,b⟩|⟨f,args,_,b⟩
  ·exact⟨v,w',_,j,b _ (fO.refl _)⟩
  ·exact⟨_,w',_,j,b _ (fO.refl _)⟩
  ·obtain⟨e,w',fr,⟨v,_,j,p,o,l⟩,_⟩:=b [];exact⟨v,w',_,j,l _ (fO.refl _)⟩
 ·rcases h with ⟨_,_,m,cs,T,rfl,_,b⟩|⟨_,h⟩
  ·have s:=sees_alloc w (.cells cs.toArray T);exact⟨_,_,_,q _ _ c s,b _ _ s (t i _ l w c) u.new (Al.mk' w cs T).blk⟩
  ·exact⟨_,w,_,c,h _ (fO.refl _)⟩
theorem aSn {j:Nat}{x:Oper} (H:ops[j]? =some x) (y:kd j≠ .pure) {K E:Mm->Act->World->Prop}{M:Mm}{a:Act}{w:World}
  (h:xOp P I ops kd j K M a w) (l: ∀u M z w',(kd j= .fcall\/kd j= .read\/kd j= .new\/(kd j).isMk=true->fO w z)->(∀c,fO z c->K M (a.put x.dst u) c)->fO z w'->E M (a.put x.dst u) w'):xOp P I ops kd j E M a w:=by
 unfold xOp at *
 simp only [H]at h⊢
 cases s:kd j<;>simp only [s]at h⊢ <;>simp only [s]at l
 ·exact absurd s y
 ·obtain⟨v,B,C⟩:=h;exact⟨v,B,λw' i=>l v _ w w' (λ_=>fO.refl w) C i⟩
 ·obtain⟨v,B,C⟩:=h;exact⟨v,B,λw' i=>l v _ w w' (λ_=>fO.refl w) C i⟩
 ·rcases h with ⟨n,h⟩|⟨n,h⟩
  rotate_left
  ·exact .inr ⟨n,λw' i=>l _ _ w w' (λ_=>fO.refl w) h i⟩
  refine .inl ⟨n,?_⟩;rcases h with ⟨v,w',o,p,q⟩|⟨f,args,o,q⟩
  ·exact .inl ⟨v,w',o,p,λc i=>l v _ w' c (λ_=>p) q i⟩
  ·exact .inr ⟨f,args,o,q.mono λe w' ⟨v,D,p,s⟩=>⟨v,D,p,λc i=>l v _ w' c (λ_=>p) s i⟩⟩
 ·rcases h with ⟨n,h⟩|⟨n,h⟩
  rotate_left
  ·exact .inr ⟨n,λw' i=>l _ _ w w' (λ_=>fO.refl w) h i⟩
  refine .inl ⟨n,?_⟩;rcases h with ⟨v,w',o,p,t,r,q⟩|⟨w',o,p,t,r,q⟩|⟨f,args,o,q⟩
  ·exact .inl ⟨v,w',o,p,t,r,λc i=>l v _ w' c (λh=>by simp [Kd.isMk]at h) q i⟩
  ·exact .inr (.inl ⟨w',o,p,t,r,λc i=>l _ _ w' c (λh=>by simp [Kd.isMk]at h) q i⟩)
  ·exact .inr (.inr ⟨f,args,o,q.mono λe w' ⟨v,D,p,t,r,s⟩=>⟨v,D,p,t,r,λc i=>l v _ w' c (λh=>by simp [Kd.isMk]at h) s i⟩⟩)
 ·rcases h with ⟨n,A,m,cs,T,J,o,q⟩|⟨n,h⟩
  ·exact .inl ⟨n,A,m,cs,T,J,o,λb c F L O R=>l _ _ c c (λ_=>F) (λS G=>q b S (F.trans G) L O (R.Z G)) (fO.refl _)⟩
  ·exact .inr ⟨n,λw' i=>l _ _ w w' (λ_=>fO.refl w) h i⟩

theorem xSwap {i j:Nat} (hB: ∀i B,kd i= .mk B-> ∀w,I w->B<=w.heap.size) (hm:aIv ops kd i j=true) (hs: ∀(k:Nat) (o:Oper) cs b,ops[k]? =some o->o.op≠ .select cs b) (hI: ∀w w',I w->fO w w'->I w') {K:Mm->Act->World->Prop}{M:Mm}{a:Act}{w:World} (Y:I w) (hM:pV M w)
  (h:xOp P I ops kd i (xOp P I ops kd j K) M a w):xOp P I ops kd j (xOp P I ops kd i K) M a w:=by
 unfold aIv at hm
 cases hi:ops[i]? with
 |none=>simp [hi]at hm
 |some A=>
  cases hj:ops[j]? with
  |none=>simp [hi,hj]at hm
  |some p=>
   simp only [hi,hj,Bool.and_eq_true,Bool.or_eq_true]at hm;obtain⟨⟨aa,C⟩,hk⟩:=hm;have ab:=λcs b=>hs i A cs b hi
   have D:=λcs b=>hs j p cs b hj
   obtain⟨_,i2,i3⟩:=Oper.apart_spec aa;obtain⟨_,_,j3⟩:=Oper.apart_spec C;have E: ∀{u:Value}{a:Act},execOp (a.put p.dst u).eval A=execOp a.eval A:=execOp_put _ ab _ _ _ i3;have F: ∀{u:Value}{a:Act},Region.wanted A (yielded ops (a.put p.dst u).tmps)=Region.wanted A (yielded ops a.tmps):=wanted_put _ _ _ _ i3;have S: ∀{u:Value}{a:Act},execOp (a.put A.dst u).eval p=execOp a.eval p:=execOp_put _ D _ _ _ j3;have T: ∀{u:Value}{a:Act},Region.wanted p (yielded ops (a.put A.dst u).tmps)=Region.wanted p (yielded ops a.tmps):=wanted_put _ _ _ _ j3;have h0:=h
   by_cases ap:(kd j).isPure=true
   ·have f:kd j= .pure:=by cases h':kd j<;>simp_all [Kd.isPure]
    obtain⟨v0,_,_,_,h1⟩:=xOp_some hi hB hI Y hM h;unfold xOp at h1;simp only [hj,f]at h1;obtain⟨u,G,_⟩:=h1;have ac:aDq P I ops p u a:=G.of_same S.symm T.symm;have hu: ∀{M':Mm}{a':Act}{w':World},Region.wanted p (yielded ops a'.tmps)=Region.wanted p (yielded ops a.tmps)->execOp a'.eval p=execOp a.eval p->xOp P I ops kd j K M' a' w'->K M' (a'.put p.dst u) w':=by
     intro M' a' w' au av l;unfold xOp at l;simp only [hj,f]at l;obtain⟨u',aw,ax⟩:=l;have:u'=u:=by
      have ay:aDq P I ops p u' a:=aw.of_same av.symm au.symm;rcases ay with ⟨s,H⟩|⟨s,H⟩<;>rcases ac with ⟨r1,r2⟩|⟨r1,r2⟩
      ·have:=(H w Y).symm.trans (r2 w Y);injection this with this;injection this
      ·rw [s]at r1;cases r1
      ·rw [s]at r1;cases r1
      ·rw [H,r2]
     rw [<-this];exact ax
    have J:xOp P I ops kd i (λM a' w'=>K M (a'.put p.dst u) w') M a w:=aMs (λo M v w' ho l=>by rw [hi]at ho;cases ho;exact hu T S l) h
    conv=>unfold xOp
    simp only [hj,f];exact⟨u,ac,xOp_put hi aa ab J⟩
   have L:kd j≠ .pure:=λe=>ap (by rw [e];rfl)
   by_cases bv:(kd i).isPure=true
   ·have c:kd i= .pure:=by cases h':kd i<;>simp_all [Kd.isPure]
    unfold xOp at h;simp only [hi,c]at h;obtain⟨v,G,hK⟩:=h;refine aSn hj L (aHf hj C D hK) λu M w1 w' _ J X=>?_
    unfold xOp;simp only [hi,c];exact⟨v,G.of_same E F,J w' X⟩
   by_cases bw:(kd i).isFcall=true
   ·have c:kd i= .fcall:=by cases h':kd i<;>simp_all [Kd.isFcall]
    unfold xOp at h;simp only [hi,c]at h;obtain⟨v,G,hK⟩:=h;refine aSn hj L (aHf hj C D (hK w (fO.refl w))) λu M w1 w' _ J X=>?_
    unfold xOp;simp only [hi,c];exact⟨v,G.of_same E F,λr h4=>J r (X.trans h4)⟩
   by_cases bx:(kd i).isMk=true
   ·have bz:(kd j).isMk=true:=by cases h':kd i<;>cases h'':kd j<;>simp_all [Kd.isPure,Kd.isFcall,Kd.isRead,Kd.isNew,Kd.isMk]
    obtain⟨_,c⟩: ∃B,kd i= .mk B:=by cases h':kd i<;>simp_all [Kd.isMk]
    obtain⟨_,f⟩: ∃B,kd j= .mk B:=by cases h':kd j<;>simp_all [Kd.isMk]
    have hc: ∀v u,(a.put p.dst u).put A.dst v=(a.put A.dst v).put p.dst u:=λv u=>(Act.put_comm a v u i2).symm
    unfold xOp at h;simp only [hi,c]at h;unfold xOp;simp only [hj,f];rcases h with ⟨t,Ai,mi,ci,Ti,rfl,ri,Ki⟩|⟨t,Ki⟩
    ·have a6:=sees_alloc w (.cells ci.toArray Ti);have l:=Ki _ _ a6 (hB i _ c w Y) hM.new (Al.mk' w ci Ti).blk;unfold xOp at l;simp only [hj,f,T,S]at l;rcases l with ⟨n,Aj,mj,cj,Tj,_,rj,_⟩|⟨n,_⟩
     ·refine .inl ⟨n,Ai,mj,cj,Tj,rfl,rj,λb O s H q0 q3=>?_⟩;simp only [hi,c,F,E];refine .inl ⟨t,_,mi,ci,Ti,rfl,ri,λb' r z q5 q7 q6=>?_⟩;have l:=Ki b' r (s.trans z) q5 (λh=>q7 (.inr h)) q6;unfold xOp at l;simp only [hj,f,T,S]at l;rcases l with ⟨_,_,_,_,_,bf,bg,R⟩|⟨y,_⟩
      ·have ai:=hI _ _ Y (s.trans z);have e:=(bg r ai).symm.trans (rj r ai)
       injection e with e1 e2
       injection e1 with e1
       obtain rfl:=Mk.inj e1;obtain⟨rfl,rfl⟩:=alloc_inj e2
       cases bf
       rw [hc];have hk:=R b r (fO.refl r) H (λh=>h.elim (λh=>q7 (.inl h.symm)) q0) (q3.Z z);have hE:(λx=>x=b\/x=b'\/Ai x)=(λx=>x=b'\/x=b\/Ai x):=funext λx=>propext ⟨λh=>h.elim (λh=> .inr (.inl h)) λh=>h.elim .inl λh=> .inr (.inr h),λh=>h.elim (λh=> .inr (.inl h)) λh=>h.elim .inl λh=> .inr (.inr h)⟩
       rw [hE]at hk;exact hk
      ·rw [n]at y;cases y
     ·refine .inr ⟨n,λO s=>?_⟩;simp only [hi,c,F,E];refine .inl ⟨t,Ai,mi,ci,Ti,rfl,ri,λb' r z q5 q7 q6=>?_⟩;have l:=Ki b' r (s.trans z) q5 q7 q6;unfold xOp at l;simp only [hj,f,T,S]at l;rcases l with ⟨y,_⟩|⟨_,R⟩
      ·rw [n]at y;cases y
      ·rw [hc];exact R r (fO.refl r)
    ·have l:=Ki w (fO.refl w);unfold xOp at l;simp only [hj,f,T,S]at l;rcases l with ⟨n,Aj,mj,cj,Tj,rfl,rj,R⟩|⟨n,R⟩
     ·refine .inl ⟨n,Aj,mj,cj,Tj,rfl,rj,λb O s H q0 q3=>?_⟩;simp only [hi,c,F,E];exact .inr ⟨t,λr z=>by rw [hc];exact R b r (s.trans z) H q0 (q3.Z z)⟩
     ·refine .inr ⟨n,λO s=>?_⟩;simp only [hi,c,F,E];exact .inr ⟨t,λr z=>by rw [hc];exact R r (s.trans z)⟩
   have c:kd i= .read:=by cases h':kd i<;>simp_all [Kd.isPure,Kd.isFcall,Kd.isRead,Kd.isNew,Kd.isMk]
   have f:kd j= .fcall\/kd j= .read\/kd j= .new\/(kd j).isMk=true:=by cases h':kd j<;>simp_all [Kd.isPure,Kd.isFcall,Kd.isRead,Kd.isNew,Kd.isMk]
   unfold xOp at h;simp only [hi,c]at h;obtain⟨v,G,hK⟩:=h;refine aSn hj L (aHf hj C D (hK w (fO.refl w))) λu M w1 w' q J X=>?_
   unfold xOp;simp only [hi,c];exact⟨v,(G.Z ((q f).trans X)).of_same E F,λr h4=>J r (X.trans h4)⟩

theorem aGt (e: ∀i B,kd i= .mk B-> ∀w,I w->B<=w.heap.size)(f: ∀(k:Nat) (o:Oper) cs b,ops[k]? =some o->o.op≠ .select cs b)(c: ∀w w',I w->fO w w'->I w')(i:Nat)(post:List Nat): ∀(pre:List Nat) (M:Mm) (a:Act) (w:World),I w->pV M w->(∀p∈pre,aIv ops kd p i=true)->
  kE P I ops kd Q (pre++i::post) M a w->kE P I ops kd Q (i::(pre++post)) M a w
 | [],_,_,_,_,_,_,h=>h
 |p::pre,M,a,w,j,l,hm,h=>by
  have n:xOp P I ops kd p (λM a w=>I w/\pV M w/\kE P I ops kd Q (pre++i::post) M a w) M a w:=bAk c j l h;have r:xOp P I ops kd p (kE P I ops kd Q (i::(pre++post))) M a w:=aNa (λM a w h=>aGt e f c i post pre M a w h.1 h.2.1 (λq s=>hm q (List.mem_cons_of_mem _ s)) h.2.2) n;exact xSwap e (hm p List.mem_cons_self) f c j l r

def waits (a:Region.Mode)(ops:Array Oper)(q p:Nat):Bool:=((ops[q]?).map λo=>o.after.toList.any λe=>Region.binds a e&&e.on==p).getD false
def qR (a:Region.Mode)(ops:Array Oper):Nat->Nat->Nat->Bool
 |0,q,p=>waits a ops q p
 |n+1,q,p=>waits a ops q p||(List.range ops.size).any λm=>waits a ops q m&&qR a ops n m p
def Dn (b:Region.Mode)(ops:Array Oper)(a:Array Bool):Prop:= ∀q p,a.getD q false=true->waits b ops q p=true->a.getD p true=true
theorem Dn.trans {f:Region.Mode}{ops:Array Oper}{a:Array Bool} (c:a.size=ops.size) (h:Dn f ops a): ∀(n q p:Nat),a.getD q false=true->qR f ops n q p=true->a.getD p true=true
 |0,q,p,e,b=>h q p e b
 |n+1,q,p,e,b=>by
  simp only [qR,Bool.or_eq_true,List.any_eq_true,Bool.and_eq_true,List.mem_range]at b;rcases b with b|⟨m,hm,j,l⟩
  ·exact h q p e b
  ·have i:=h q m e j;refine Dn.trans c h n m p ?_ l;rw [Array.getD_eq_getD_getElem?,Array.getElem?_eq_getElem (by rw [c];exact hm)]at i⊢;simpa using i
def pairB (a:Region.Mode)(ops:Array Oper)(kd:Nat->Kd):List Nat->Bool
 | []=>true
 |p::l=>(l.all λq=> !waits a ops p q&&(qR a ops 5 q p||aIv ops kd p q))&&pairB a ops kd l
def edgesB (a:Region.Mode)(ops:Array Oper):Bool:=
 (List.range ops.size).all λi=>((ops[i]?).map λo=>o.after.all λe=> !Region.binds a e||(decide (e.on<ops.size)&&e.on !=i)).getD true

theorem sF {b:Region.Mode} (i:Nat) (post:List Nat): ∀(pre:List Nat),pairB b ops kd (pre++i::post)=true->
  pairB b ops kd (pre++post)=true/\ ∀p∈pre,qR b ops 5 i p=true\/aIv ops kd p i=true
 | [],h=>by
  simp only [List.nil_append,pairB,Bool.and_eq_true]at h;exact⟨h.2,by simp⟩
 |p::pre,h=>by
  simp only [List.cons_append,pairB,Bool.and_eq_true]at h;obtain⟨c,e⟩:=h;obtain⟨f,j⟩:=sF i post pre e;rw [List.all_eq_true]at c;refine⟨?_,?_⟩
  ·simp only [List.cons_append,pairB,Bool.and_eq_true];refine⟨List.all_eq_true.2 λq a=>c q ?_,f⟩;rcases mA.1 a with h|h
   ·exact List.mem_append_left _ h
   ·exact List.mem_append_right _ (List.mem_cons_of_mem _ h)
  ·intro q a;rcases List.mem_cons.1 a with rfl|a
   ·have:=c i (List.mem_append_right _ List.mem_cons_self);simp only [Bool.and_eq_true,Bool.or_eq_true]at this;exact this.2
   ·exact j q a

theorem aDw {E:Region.Mode}{Qx:Exit->Act->World->Prop} (hB: ∀i B,kd i= .mk B-> ∀w,I w->B<=w.heap.size) (hs: ∀(k:Nat) (o:Oper) cs b,ops[k]? =some o->o.op≠ .select cs b) (hI: ∀w w',I w->fO w w'->I w') (ac:edgesB E ops=true) (hQ: ∀M a w,Q M a w->Qx .normal a w):
  ∀(r:Nat) (c:Array Bool) (l:List Nat) (M:Mm) (a:Act) (w:World),c.size=ops.size->l.Nodup->(∀i,i∈l↔i<ops.size/\c.getD i true=false)->pairB E ops kd l=true->l.length<=r->I w->pV M w->Dn E ops c->
   kE P I ops kd Q l M a w->wpAny P E ops Qx r c a w:=by
 have x: ∀{c:Array Bool}{i:Nat},c.size=ops.size->i∈Region.ready E ops c->i<ops.size/\c.getD i true=false:=by
  intro c i f hi;obtain⟨h0,o,O,_⟩:=mem_ready.1 hi;exact⟨(Array.getElem?_eq_some_iff.1 O).1,h0⟩
 intro r
 induction r with
 |zero=>
  intro c l M a w f _ H _ F _ _ _ h;have:l=[]:=List.eq_nil_of_length_eq_zero (by omega);subst this;refine⟨?_,hQ _ _ _ h⟩;apply List.eq_nil_iff_forall_not_mem.2;intro i hi;have:=(H i).2 (x f hi);simp at this
 |succ r ih=>
  intro c l M a w f ad H hp F R hM S h;refine⟨λhr=>?_,λi hi=>?_⟩
  ·cases l with
   |nil=>exact hQ _ _ _ h
   |cons p l=>
    exfalso;have j:=(H p).1 List.mem_cons_self;have:p∈Region.ready E ops c:=by
     refine mem_ready.2 ⟨j.2,ops[p],Array.getElem?_eq_getElem j.1,λe C u=>?_⟩;have n:=(List.all_eq_true.1 ac) p (List.mem_range.2 j.1);rw [Array.getElem?_eq_getElem j.1]at n;simp only [Option.map_some,Option.getD_some]at n;have n:=Array.all_eq_true_iff_forall_mem.1 n e C;rw [u]at n;simp only [Bool.not_true,Bool.false_or,Bool.and_eq_true,decide_eq_true_eq,bne_iff_ne,ne_eq]at n;obtain⟨t,T⟩:=n;have s:e.on<c.size:=by rw [f];exact t
     cases hc:c.getD e.on true with
     |true=>
      rw [Array.getD_eq_getD_getElem?,Array.getElem?_eq_getElem s]at hc⊢;simpa using hc
     |false=>
      exfalso;have hm:=(H e.on).2 ⟨t,hc⟩;rcases List.mem_cons.1 hm with hm|hm
      ·exact T hm
      ·simp only [pairB,Bool.and_eq_true]at hp;have:=List.all_eq_true.1 hp.1 e.on hm;simp only [Bool.and_eq_true,Bool.not_eq_true']at this;have L:waits E ops p e.on=true:=by
        unfold waits;rw [Array.getElem?_eq_getElem j.1];simp only [Option.map_some,Option.getD_some];exact List.any_eq_true.2 ⟨e,Array.mem_toList_iff.2 C,by simp [u]⟩
       rw [L]at this;exact Bool.noConfusion this.1
    rw [hr]at this
    cases this
  ·have j:=(H i).2 (x f hi);obtain⟨pre,post,rfl⟩:=List.append_of_mem j;obtain⟨ag,ah⟩:=sF i post pre hp;have X: ∀p∈pre,aIv ops kd p i=true:=by
    intro p Y;rcases ah p Y with L|hm
    ·exfalso;have ai:=((H p).1 (List.mem_append_left _ Y));have aa: ∀m,waits E ops i m=true->c.getD m true=true:=by
      intro m D;obtain⟨_,o,O,y⟩:=mem_ready.1 hi;unfold waits at D;rw [O]at D;simp only [Option.map_some,Option.getD_some]at D;obtain⟨e,C,u⟩:=List.any_eq_true.1 D
      replace C:=Array.mem_toList_iff.1 C
      simp only [Bool.and_eq_true,beq_iff_eq]at u;have t:=y e C u.1;rw [u.2]at t
      by_cases J:m<c.size
      ·rw [Array.getD_eq_getD_getElem?,Array.getElem?_eq_getElem J]at t⊢;simpa using t
      ·rw [Array.getD_eq_getD_getElem?,Array.getElem?_eq_none (by omega)];rfl
     have:c.getD p true=true:=by
      simp only [qR,Bool.or_eq_true,List.any_eq_true,Bool.and_eq_true,List.mem_range]at L;rcases L with L|⟨m,hm,t,T⟩
      ·exact aa p L
      ·have h3:=aa m t;have h4:c.getD m false=true:=by
        rw [Array.getD_eq_getD_getElem?,Array.getElem?_eq_getElem (by rw [f];exact hm)]at h3⊢;simpa using h3
       refine Dn.trans f S 4 m p h4 ?_;simp only [qR,Bool.or_eq_true,List.any_eq_true,Bool.and_eq_true,List.mem_range];exact T
     rw [ai.2]at this;cases this
    ·exact hm
   have hx:=aGt hB hs hI i post pre M a w R hM X h;have hx:=aKl (Qx:=Qx) hB hI R hM hx;refine wpOp_mono (λa w ⟨M,h⟩=>?_) hx;have G:(pre++post).Nodup/\i∉pre++post:=by
    have:=ad;rw [List.nodup_append]at this;obtain⟨n1,n2,n3⟩:=this;rw [List.nodup_cons]at n2;refine⟨List.nodup_append.2 ⟨n1,n2.2,λa ha b u=>n3 a ha b (List.mem_cons_of_mem _ u)⟩,λhm=>?_⟩;rcases mA.1 hm with hm|hm
    ·exact n3 i hm i List.mem_cons_self rfl
    ·exact n2.1 hm
   refine ih _ (pre++post) M a w (by simpa using f) G.1 (λk=>?_) ag (by simp at F⊢;omega) h.1 h.2.1 ?_ h.2.2
   rotate_left
   ·intro q p hq z
    by_cases ab:q=i
    ·subst ab;obtain⟨_,o,O,y⟩:=mem_ready.1 hi;unfold waits at z;rw [O]at z;simp only [Option.map_some,Option.getD_some]at z;obtain⟨e,C,u⟩:=List.any_eq_true.1 z
     replace C:=Array.mem_toList_iff.1 C
     simp only [Bool.and_eq_true,beq_iff_eq]at u;have t:=y e C u.1;rw [u.2]at t
     by_cases A:p=q
     ·subst A;have s:p<c.size:=by rw [f];exact(x f hi).1
      simp [Array.getD_eq_getD_getElem?,s]
     ·rw [getD_set_ne true (Ne.symm A)]
      by_cases J:p<c.size
      ·rw [Array.getD_eq_getD_getElem?,Array.getElem?_eq_getElem J]at t⊢;simpa using t
      ·rw [Array.getD_eq_getD_getElem?,Array.getElem?_eq_none (by omega)];rfl
    ·rw [getD_set_ne false (Ne.symm ab)]at hq;have t:=S q p hq z
     by_cases A:p=i
     ·subst A;have s:p<c.size:=by rw [f];exact(x f hi).1
      simp [Array.getD_eq_getD_getElem?,s]
     ·rw [getD_set_ne true (Ne.symm A)];exact t
   by_cases hk:k=i
   ·subst hk;have s:k<c.size:=by rw [f];exact(x f hi).1
    constructor
    ·intro hm;exact absurd hm G.2
    ·rintro⟨_,T⟩;simp [Array.getD_eq_getD_getElem?,s]at T
   ·rw [getD_set_ne true (Ne.symm hk),<-H k];simp [hk]

theorem aEl {h:Region.Mode}{a:Array Bool}{p:Nat}{l:List Nat}(j:a.size=ops.size)(n:edgesB h ops=true)(r: ∀i,i∈p::l↔i<ops.size/\a.getD i true=false)(x: ∀q∈l,waits h ops p q=false):p∈Region.ready h ops a:=by
 have c:=(r p).1 List.mem_cons_self;refine mem_ready.2 ⟨c.2,ops[p],Array.getElem?_eq_getElem c.1,λe s t=>?_⟩;have b:=(List.all_eq_true.1 n) p (List.mem_range.2 c.1);rw [Array.getElem?_eq_getElem c.1]at b;simp only [Option.map_some,Option.getD_some]at b;have b:=Array.all_eq_true_iff_forall_mem.1 b e s;rw [t]at b;simp only [Bool.not_true,Bool.false_or,Bool.and_eq_true,decide_eq_true_eq,bne_iff_ne,ne_eq]at b;obtain⟨u,y⟩:=b;have o:e.on<a.size:=by rw [j];exact u
 cases hc:a.getD e.on true with
 |true=>
  rw [Array.getD_eq_getD_getElem?,Array.getElem?_eq_getElem o]at hc⊢;simpa using hc
 |false=>
  exfalso;have hm:=(r e.on).2 ⟨u,hc⟩;rcases List.mem_cons.1 hm with hm|hm
  ·exact y hm
  ·have f:waits h ops p e.on=true:=by
    unfold waits;rw [Array.getElem?_eq_getElem c.1];simp only [Option.map_some,Option.getD_some];exact List.any_eq_true.2 ⟨e,Array.mem_toList_iff.2 s,by simp [t]⟩
   rw [x e.on hm]at f;cases f
theorem aHs {n:Region.Mode}{a:Array Bool}{i m:Nat} (hi:i∈Region.ready n ops a) (b:waits n ops i m=true):a.getD m true=true:=by
 obtain⟨_,_,p,c⟩:=mem_ready.1 hi;unfold waits at b;rw [p]at b;simp only [Option.map_some,Option.getD_some]at b;obtain⟨e,f,h⟩:=List.any_eq_true.1 b
 replace f:=Array.mem_toList_iff.1 f
 simp only [Bool.and_eq_true,beq_iff_eq]at h;have j:=c e f h.1;rw [h.2]at j
 by_cases l:m<a.size
 ·rw [Array.getD_eq_getD_getElem?,Array.getElem?_eq_getElem l]at j⊢;simpa using j
 ·rw [Array.getD_eq_getD_getElem?,Array.getElem?_eq_none (by omega)];rfl
theorem nU {e:Region.Mode}{a:Array Bool}{i p:Nat} (b:a.size=ops.size) (f:Dn e ops a) (hi:i∈Region.ready e ops a) (c:qR e ops 5 i p=true):a.getD p true=true:=by
 simp only [qR,Bool.or_eq_true,List.any_eq_true,Bool.and_eq_true,List.mem_range]at c;rcases c with c|⟨m,hm,j,l⟩
 ·exact aHs hi c
 ·have h:=aHs hi j;have n:a.getD m false=true:=by
   rw [Array.getD_eq_getD_getElem?,Array.getElem?_eq_getElem (by rw [b];exact hm)]at h⊢;simpa using h
  refine Dn.trans b f 4 m p n ?_;simp only [qR,Bool.or_eq_true,List.any_eq_true,Bool.and_eq_true,List.mem_range];exact l
theorem aSw {l:Region.Mode}{a:Array Bool}{i:Nat} (e:a.size=ops.size) (f:i<ops.size) (n:Dn l ops a) (hi:i∈Region.ready l ops a):Dn l ops (a.setIfInBounds i true):=by
 intro q p r h;by_cases j:q=i;subst j;have o:=aHs hi h;by_cases b:p=q;subst b;have c:p<a.size:=by rw [e];exact f
 simp [Array.getD_eq_getD_getElem?,c];rw [getD_set_ne true (Ne.symm b)];exact o;rw [getD_set_ne false (Ne.symm j)]at r;have o:=n q p r h;by_cases b:p=i;subst b;have c:p<a.size:=by rw [e];exact f
 simp [Array.getD_eq_getD_getElem?,c];rw [getD_set_ne true (Ne.symm b)];exact o
theorem aGe {c:Array Bool}{i:Nat}{pre post:List Nat} (h:c.size=ops.size) (j:i<ops.size) (f:(pre++i::post).Nodup) (q: ∀k,k∈pre++i::post↔k<ops.size/\c.getD k true=false):
  (pre++post).Nodup/\ ∀k,k∈pre++post↔k<ops.size/\(c.setIfInBounds i true).getD k true=false:=by
 have e:(pre++post).Nodup/\i∉pre++post:=by
  rw [List.nodup_append]at f;obtain⟨r,l,p⟩:=f;rw [List.nodup_cons]at l;refine⟨List.nodup_append.2 ⟨r,l.2,λa s b t=>p a s b (List.mem_cons_of_mem _ t)⟩,λhm=>?_⟩;rcases mA.1 hm with hm|hm
  ·exact p i hm i List.mem_cons_self rfl
  ·exact l.1 hm
 refine⟨e.1,λk=>?_⟩
 by_cases n:k=i
 ·subst n;have o:k<c.size:=by rw [h];exact j
  constructor
  ·intro hm;exact absurd hm e.2
  ·rintro⟨_,u⟩;simp [Array.getD_eq_getD_getElem?,o]at u
 ·rw [getD_set_ne true (Ne.symm n),<-q k];simp [n]
theorem wF (Q:Mm->Act->World->Prop)(l2:List Nat): ∀(l1:List Nat) (M:Mm) (a:Act) (w:World),kE P I ops kd Q (l1++l2) M a w=kE P I ops kd (λM a w=>kE P I ops kd Q l2 M a w) l1 M a w
 | [],_,_,_=>rfl
 |i::l1,M,a,w=>by
  have e:kE P I ops kd Q (l1++l2)=kE P I ops kd (λM a w=>kE P I ops kd Q l2 M a w) l1:=by
   funext M a w;exact wF Q l2 l1 M a w
  show xOp P I ops kd i (kE P I ops kd Q (l1++l2)) M a w=_;rw [e];rfl
theorem qG {b:Mm->Act->World->Prop}(h: ∀M a w,Q M a w->b M a w): ∀(l:List Nat) (M:Mm) (a:Act) (w:World),kE P I ops kd Q l M a w->kE P I ops kd b l M a w
 | [],_,_,_,hh=>h _ _ _ hh
 |_::l,_,_,_,hh=>aNa (λM a w c=>qG h l M a w c) hh
theorem aTa (c: ∀w w',I w->fO w w'->I w'): ∀(l:List Nat) (M:Mm) (a:Act) (w:World),I w->pV M w->kE P I ops kd Q l M a w->kE P I ops kd (λM a w=>I w/\Q M a w) l M a w
 | [],_,_,_,b,_,h=>⟨b,h⟩
 |i::l,M,a,w,b,e,h=>by
  have f:xOp P I ops kd i (λM a w=>I w/\pV M w/\kE P I ops kd Q l M a w) M a w:=bAk c b e h;exact aNa (λM a w h=>aTa c l M a w h.1 h.2.1 h.2.2) f
def mvB (ops:Array Oper)(kd:Nat->Kd)(p:Nat):Bool:=match ops[p]? with
 |some o=>(kd p).isPure&&(match o.op with | .move _=>true| .assign _=>true| .extract _ _=>true|_=>false)
 |none=>false
theorem aDq.mv {I0 : World -> Prop} {p : Nat} {o : Oper} {v : Value} {a : Act} {w : World} (ho : ops[p]? = some o) (hm : mvB ops kd p = true) (hw : I w) (h : aDq P I ops o v a) : aDq P I0 ops o v a := by
  refine h.imp (λ ⟨h1, h2⟩ => ⟨h1, λ_ _ => ?_⟩) id;have q := h2 w hw;unfold mvB at hm;rw [ho] at hm;simp only [Bool.and_eq_true] at hm;have hm := hm.2
  cases hop : o.op <;> rw [hop] at hm <;> simp only [Bool.false_eq_true] at hm
  all_goals
    unfold execOp at q ⊢;rw [hop] at q ⊢;simp at q ⊢
    first
      | exact q
      | (unfold Instr.extract at q ⊢
         split at q
         · split at q
           · simp_all
           · simp_all [stuck]
         · simp_all)
def forkB (a:Region.Mode)(ops:Array Oper)(kd:Nat->Kd)(pre:List Nat)(u v:Nat)(post:List Nat):Bool:=
 pairB a ops kd (pre++u::post)&&pairB a ops kd (pre++v::post)&& !waits a ops u v&& !waits a ops v u&&(post.all λq=>qR a ops 5 q u||qR a ops 5 q v)&& !(mvB ops kd u&&mvB ops kd v)
theorem aHu {a:Region.Mode}(i:Nat)(post pre:List Nat)(h:pairB a ops kd (pre++i::post)=true):pairB a ops kd (pre++post)=true:=(sF i post pre h).1
theorem qH {b:Region.Mode}{p q:Nat}: ∀{l1 l2:List Nat},pairB b ops kd (l1++p::l2)=true->q∈l2->waits b ops p q=false
 | [],l2,h,a=>by
  simp only [List.nil_append,pairB,Bool.and_eq_true]at h;have:=List.all_eq_true.1 h.1 q a;simp only [Bool.and_eq_true,Bool.not_eq_true']at this;exact this.1
 |x::l1,l2,h,a=>by
  simp only [List.cons_append,pairB,Bool.and_eq_true]at h;exact qH h.2 a
theorem forkB_del {b:Region.Mode}{i u v:Nat}{a c post:List Nat}(h:forkB b ops kd (a++i::c) u v post=true):forkB b ops kd (a++c) u v post=true:=by
 unfold forkB at *;simp only [Bool.and_eq_true]at h⊢;obtain⟨⟨⟨⟨⟨e,f⟩,j⟩,l⟩,n⟩,o⟩:=h;rw [List.append_assoc,List.cons_append]at e f;refine⟨⟨⟨⟨⟨?_,?_⟩,j⟩,l⟩,n⟩,o⟩;rw [List.append_assoc];exact aHu i _ a e;rw [List.append_assoc];exact aHu i _ a f
def barB (a:Region.Mode)(ops:Array Oper)(kd:Nat->Kd)(l l2:List Nat):Bool:=l.all λp=>l2.all λq=> !waits a ops p q&&(qR a ops 5 q p||(mvB ops kd p&&aIv ops kd p q))
theorem aAr {a:Region.Mode}{l l2:List Nat}(h:barB a ops kd l l2=true){p q:Nat}(b:p∈l)(c:q∈l2):(qR a ops 5 q p=true\/mvB ops kd p=true/\aIv ops kd p q=true)/\waits a ops p q=false:=by
 have:=List.all_eq_true.1 (List.all_eq_true.1 h p b) q c;simp only [Bool.and_eq_true,Bool.or_eq_true,Bool.not_eq_true']at this;exact⟨this.2,this.1⟩
theorem aCy {a:Region.Mode}{l b l2:List Nat}(h:barB a ops kd l l2=true)(c: ∀x∈b,x∈l):barB a ops kd b l2=true:=List.all_eq_true.2 λx e=>List.all_eq_true.1 h x (c x e)
theorem aPi {b:Region.Mode}{l2:List Nat} (c:pairB b ops kd l2=true): ∀{l:List Nat},pairB b ops kd l=true->barB b ops kd l l2=true->pairB b ops kd (l++l2)=true
 | [],_,_=>c
 |p::l,h,e=>by
  simp only [pairB,Bool.and_eq_true]at h;rw [List.cons_append];simp only [pairB,Bool.and_eq_true];refine⟨List.all_eq_true.2 λq a=>?_,aPi c h.2 (aCy e λx f=>List.mem_cons_of_mem _ f)⟩;rcases mA.1 a with a|a
  ·exact List.all_eq_true.1 h.1 q a
  ·obtain⟨i,j⟩:=aAr e List.mem_cons_self a;rw [j];simp only [Bool.not_false,Bool.true_and,Bool.or_eq_true];exact i.imp id And.right
theorem aSm {I0:World->Prop}{c:Mm->Act->World->Prop}{l2:List Nat}: ∀(l:List Nat) {M:Mm}{a:Act}{w:World},(∀p∈l,mvB ops kd p=true)->I w->kE P I ops kd (λ_ a w=>I0 w/\kE P I0 ops kd c l2 none a w) l M a w->I0 w/\kE P I0 ops kd c (l++l2) none a w
 | [],_,_,_,_,_,h=>h
 |p::l,M,a,w,e,f,h=>by
  have hm:=e p List.mem_cons_self;have b:=hm;change xOp P I ops kd p _ M a w at h;unfold xOp at h
  cases ho:ops[p]? with
  |none=>rw [ho]at h;exact h.elim
  |some _=>
   have i:kd p= .pure:=by
    unfold mvB at b;rw [ho]at b;simp only [Bool.and_eq_true]at b
    cases h':kd p<;>simp_all [Kd.isPure]
   simp only [ho,i]at h;obtain⟨v,j,n⟩:=h;obtain⟨q,r⟩:=aSm l (λx s=>e x (List.mem_cons_of_mem _ s)) f n;refine⟨q,?_⟩;rw [List.cons_append];show xOp P I0 ops kd p _ none a w;unfold xOp;simp only [ho,i];exact⟨v,j.mv ho hm f,r⟩
theorem aLe {u:Region.Mode}{Qx:Exit->Act->World->Prop} (Y: ∀i B,kd i= .mk B-> ∀w,I w->B<=w.heap.size) (hs: ∀(k:Nat) (o:Oper) cs b,ops[k]? =some o->o.op≠ .select cs b) (hI: ∀w w',I w->fO w w'->I w') (T:edgesB u ops=true) (l2:List Nat)
  (A: ∀(e:Nat) (c:Array Bool) (l:List Nat) (M:Mm) (a:Act) (w:World),(∀p∈l,mvB ops kd p=true)->c.size=ops.size->(l++l2).Nodup->(∀i,i∈l++l2↔i<ops.size/\c.getD i true=false)->pairB u ops kd l=true->barB u ops kd l l2=true->(l++l2).length<=e->I w->pV M w->Dn u ops c->kE P I ops kd Q l M a w->wpAny P u ops Qx e c a w):
  ∀(e:Nat) (c:Array Bool) (l:List Nat) (M:Mm) (a:Act) (w:World),c.size=ops.size->(l++l2).Nodup->(∀i,i∈l++l2↔i<ops.size/\c.getD i true=false)->pairB u ops kd l=true->barB u ops kd l l2=true->(l++l2).length<=e->I w->pV M w->Dn u ops c->
   kE P I ops kd Q l M a w->wpAny P u ops Qx e c a w:=by
 have E: ∀{c:Array Bool}{i:Nat},c.size=ops.size->i∈Region.ready u ops c->i<ops.size/\c.getD i true=false:=by
  intro c i f hi;obtain⟨D,o,ho,_⟩:=mem_ready.1 hi;exact⟨(Array.getElem?_eq_some_iff.1 ho).1,D⟩
 intro e
 induction e with
 |zero=>
  intro c l M a w f n y _ _ j s F r h;have D:l=[]:=List.eq_nil_of_length_eq_zero (by rw [List.length_append]at j;omega);subst D;exact A 0 c [] M a w (by simp) f n y rfl rfl j s F r h
 |succ e ih=>
  intro c l M a w f n y C G j s F r h
  by_cases t: ∀p∈l,mvB ops kd p=true
  ·exact A _ c l M a w t f n y C G j s F r h
  cases l with
  |nil=>exact absurd (by simp) t
  |cons p0 l0=>
   refine⟨λhr=>?_,λi hi=>?_⟩
   ·exfalso;have:=aEl (p:=p0) (l:=l0++l2) f T y (λq H=>by
     rcases mA.1 H with H|H
     ·exact qH (l1:=[]) C H
     ·exact(aAr G List.mem_cons_self H).2)
    rw [hr]at this;cases this
   ·have J:=(E f hi).1;have L:=(y i).2 (E f hi);rcases mA.1 L with hm|hm
    ·obtain⟨O,X,he⟩:=List.append_of_mem hm;rw [he]at n y C G j h;have R: ∀p∈O,aIv ops kd p i=true:=λp S=>by
      rcases(sF i _ O C).2 p S with hw|hm
      ·have:=nU f r hi hw;have D:=((y p).1 (List.mem_append_left _ (List.mem_append_left _ S))).2;rw [D]at this;cases this
      ·exact hm
     have z:=aGt Y hs hI i X O M a w s F R h;have z:=aKl (Qx:=Qx) Y hI s F z;refine wpOp_mono (λa w ⟨M,h⟩=>?_) z;rw [List.append_assoc,List.cons_append]at n y;obtain⟨n1,n2⟩:=aGe f J n y;refine ih _ (O++X) M a w (by simpa using f) (by rw [List.append_assoc];exact n1) (by rw [List.append_assoc];exact n2) (aHu i X O C) (aCy G λ_ z=>?_) (by simp at j⊢;omega) h.1 h.2.1 (aSw f J r hi) h.2.2;rcases mA.1 z with z|z
     ·exact List.mem_append_left _ z
     ·exact List.mem_append_right _ (List.mem_cons_of_mem _ z)
    ·exfalso;refine t λp C=>?_
     rcases(aAr G C hm).1 with q|q
     ·have:=nU f r hi q;have D:=((y p).1 (List.mem_append_left _ C)).2;rw [D]at this;cases this
     ·exact q.1
theorem aXg {G:Region.Mode}{Qx:Exit->Act->World->Prop} (J: ∀i B,kd i= .mk B-> ∀w,I w->B<=w.heap.size) (hs: ∀(k:Nat) (o:Oper) cs b,ops[k]? =some o->o.op≠ .select cs b) (L: ∀w w',I w->fO w w'->I w') (H:edgesB G ops=true) (u v:Nat) (post l2:List Nat)
  (O: ∀(f:Nat) (c:Array Bool) (l:List Nat) (M:Mm) (a:Act) (w:World),(∀p∈l,mvB ops kd p=true)->c.size=ops.size->(l++l2).Nodup->(∀i,i∈l++l2↔i<ops.size/\c.getD i true=false)->pairB G ops kd l=true->barB G ops kd l l2=true->(l++l2).length<=f->I w->pV M w->Dn G ops c->kE P I ops kd Q l M a w->wpAny P G ops Qx f c a w):
  ∀(f:Nat) (c:Array Bool) (pre:List Nat) (M:Mm) (a:Act) (w:World),c.size=ops.size->(pre++u::v::(post++l2)).Nodup->(∀i,i∈pre++u::v::(post++l2)↔i<ops.size/\c.getD i true=false)->forkB G ops kd pre u v post=true->barB G ops kd (pre++u::v::post) l2=true->(pre++u::v::(post++l2)).length<=f->I w->pV M w->Dn G ops c->
   kE P I ops kd (λM a w=>kE P I ops kd Q (u::v::post) M a w/\kE P I ops kd Q (v::u::post) M a w) pre M a w->wpAny P G ops Qx f c a w:=by
 have ac: ∀{c:Array Bool}{i:Nat},c.size=ops.size->i∈Region.ready G ops c->i<ops.size/\c.getD i true=false:=by
  intro c i e hi;obtain⟨A,o,ho,_⟩:=mem_ready.1 hi;exact⟨(Array.getElem?_eq_some_iff.1 ho).1,A⟩
 intro f
 induction f with
 |zero=>intro c pre M a w _ _ _ _ _ s;simp at s
 |succ f ih=>
  intro c pre M a w e S E hp X s C Y r h;have ap:=hp;unfold forkB at hp;simp only [Bool.and_eq_true,Bool.not_eq_true']at hp;obtain⟨⟨⟨⟨⟨z,T⟩,aq⟩,_⟩,ar⟩,ad⟩:=hp;refine⟨λhr=>?_,λi hi=>?_⟩
  ·exfalso
   cases pre with
   |nil=>
    have:=aEl (p:=u) (l:=v::(post++l2)) e H E (λq j=>by
     rcases List.mem_cons.1 j with rfl|j
     ·exact aq
     ·rcases mA.1 j with j|j
      ·exact qH (l1:=[]) z j
      ·exact(aAr X List.mem_cons_self j).2)
    rw [hr]at this;cases this
   |cons p pre=>
    have:=aEl (p:=p) (l:=pre++u::v::(post++l2)) e H E (λq j=>by
     rcases mA.1 j with j|j
     ·exact qH (l1:=[]) z (List.mem_append_left _ j)
     ·rcases List.mem_cons.1 j with rfl|j
      ·exact qH (l1:=[]) z (List.mem_append_right _ List.mem_cons_self)
      ·rcases List.mem_cons.1 j with rfl|j
       ·exact qH (l1:=[]) T (List.mem_append_right _ List.mem_cons_self)
       ·rcases mA.1 j with j|j
        ·exact qH (l1:=[]) z (List.mem_append_right _ (List.mem_cons_of_mem _ j))
        ·exact(aAr X List.mem_cons_self j).2)
    rw [hr]at this;cases this
  ·have D:=(ac e hi).1;have ae:=(E i).2 (ac e hi);rcases mA.1 ae with hm|hm
   ·obtain⟨p1,p2,rfl⟩:=List.append_of_mem hm;have ag:=z;rw [List.append_assoc,List.cons_append]at ag;have t: ∀p∈p1,aIv ops kd p i=true:=λp y=>by
     rcases(sF i _ p1 ag).2 p y with hw|hm
     ·have:=nU e r hi hw;have A:=((E p).1 (List.mem_append_left _ (List.mem_append_left _ y))).2;rw [A]at this;cases this
     ·exact hm
    have n:=aGt J hs L i p2 p1 M a w C Y t h;have n:=aKl (Qx:=Qx) J L C Y n;refine wpOp_mono (λa w ⟨M,h⟩=>?_) n;have R:=S;rw [List.append_assoc,List.cons_append]at R;have ai:=E;rw [List.append_assoc,List.cons_append]at ai;obtain⟨n1,n2⟩:=aGe e D R ai;refine ih _ (p1++p2) M a w (by simpa using e) (by rw [List.append_assoc];exact n1) (by rw [List.append_assoc];exact n2) (forkB_del ap) (aCy X λx n=>by simp at n⊢;rcases n with h|h|h|h|h<;>simp [h]) (by simp at s⊢;omega) h.1 h.2.1 (aSw e D r hi) h.2.2
   ·rcases List.mem_cons.1 hm with rfl|hm
    ·have t: ∀p∈pre,aIv ops kd p i=true:=λp y=>by
      rcases(sF i _ pre z).2 p y with hw|hm
      ·have:=nU e r hi hw;have A:=((E p).1 (List.mem_append_left _ y)).2;rw [A]at this;cases this
      ·exact hm
     have h1:kE P I ops kd Q (pre++i::v::post) M a w:=by
      rw [wF];exact qG (λ_ _ _ h=>h.1) pre M a w h
     have n:=aGt J hs L i (v::post) pre M a w C Y t h1;have n:=aKl (Qx:=Qx) J L C Y n;refine wpOp_mono (λa w ⟨M,h⟩=>?_) n;obtain⟨n1,n2⟩:=aGe (pre:=pre) e D S E;exact aLe J hs L H l2 O f _ (pre++v::post) M a w (by simpa using e) (by simpa using n1) (by simpa using n2) T (aCy X λx n=>by simp at n⊢;rcases n with h|h|h<;>simp [h]) (by simp at s⊢;omega) h.1 h.2.1 (aSw e D r hi) h.2.2
    ·rcases List.mem_cons.1 hm with rfl|hm
     ·have t: ∀p∈pre,aIv ops kd p i=true:=λp y=>by
       rcases(sF i _ pre T).2 p y with hw|hm
       ·have:=nU e r hi hw;have A:=((E p).1 (List.mem_append_left _ y)).2;rw [A]at this;cases this
       ·exact hm
      have h1:kE P I ops kd Q (pre++i::u::post) M a w:=by
       rw [wF];exact qG (λ_ _ _ h=>h.2) pre M a w h
      have n:=aGt J hs L i (u::post) pre M a w C Y t h1;have n:=aKl (Qx:=Qx) J L C Y n;refine wpOp_mono (λa w ⟨M,h⟩=>?_) n;have F:(pre++u::i::(post++l2)).Perm (pre++i::u::(post++l2)):=List.Perm.append_left pre (List.Perm.swap i u _);obtain⟨n1,n2⟩:=aGe e D (F.nodup_iff.1 S) (λk=>by rw [<-F.mem_iff];exact E k);exact aLe J hs L H l2 O f _ (pre++u::post) M a w (by simpa using e) (by simpa using n1) (by simpa using n2) z (aCy X λx n=>by simp at n⊢;rcases n with h|h|h<;>simp [h]) (by simp at s⊢;omega) h.1 h.2.1 (aSw e D r hi) h.2.2
     ·exfalso;rcases mA.1 hm with hm|hm
      rotate_left
      ·have am: ∀x,x∈pre++u::v::post->x∈pre++u::v::(post++l2)->mvB ops kd x=true:=λx h1 h2=>by
        rcases(aAr X h1 hm).1 with q|q
        ·have:=nU e r hi q;have A:=((E x).1 h2).2;rw [A]at this;cases this
        ·exact q.1
       rw [am u (by simp) (by simp),am v (by simp) (by simp)]at ad
       cases ad
      have h5:=List.all_eq_true.1 ar i hm;simp only [Bool.or_eq_true]at h5;rcases h5 with h5|h5
      ·have:=nU e r hi h5;have A:=((E u).1 (List.mem_append_right _ List.mem_cons_self)).2;rw [A]at this;cases this
      ·have:=nU e r hi h5;have A:=((E v).1 (List.mem_append_right _ (List.mem_cons_of_mem _ List.mem_cons_self))).2;rw [A]at this;cases this
theorem aNs {id N:Nat}{l:List Oper}{Qx:Exit->Env->World->Prop}{a:Act}{w:World}{pre post l2:List Nat}{u v:Nat}{I0:World->Prop}(O: ∀i B,kd i= .mk B-> ∀w,I w->B<=w.heap.size)(y: ∀i B,kd i= .mk B-> ∀w,I0 w->B<=w.heap.size)(hm:P.follows .mixedOrders=true)(J:Region.noSelect l.toArray=true)(n:edgesB .any l.toArray=true)(R:forkB .any l.toArray kd pre u v post=true)(S:barB .any l.toArray kd (pre++u::v::post) l2=true)(z:pairB .any l.toArray kd l2=true)
    (b:(pre++u::v::(post++l2)).Perm (List.range l.length))(L: ∀w w',I w->fO w w'->I w')(C: ∀w w',I0 w->fO w w'->I0 w')(t:I w)
    (h: ∀w',fO w w'->kE P I l.toArray kd (λM a w=>kE P I l.toArray kd (λ_ a w=>I0 w/\kE P I0 l.toArray kd (λ_ a w=> ∃c,Fits N a c/\Qx .normal c w) l2 none a w) (u::v::post) M a w/\kE P I l.toArray kd (λ_ a w=>I0 w/\kE P I0 l.toArray kd (λ_ a w=> ∃c,Fits N a c/\Qx .normal c w) l2 none a w) (v::u::post) M a w) pre (some λ_=>False) a w'):(Code.region id l.toArray true).wp P (aFx N Qx) a w:=by
 refine wp_region_any hm (aXg O (Region.noSelect_spec J) L n u v post l2 (λo f l M a w r D E T F G s t _ H j=>aDw (I:=I0) y (Region.noSelect_spec J) C n (λ_ _ _ h=>h) o f (l++l2) none a w D E T (aPi z F G) s (aSm l r t j).1 pV.no H (aSm l r t j).2) _ _ pre (some λ_=>False) a _ (by simp) (b.nodup_iff.2 List.nodup_range) (λi=>?_) R S (by rw [b.length_eq];simp) (L _ _ t ((Below.refl _ _).drew)) (λ_ e _ X=>by cases e;exact X.elim) (λ_ _ j _=>by simp [Array.getD_eq_getD_getElem?,Array.getElem?_replicate]at j;split at j<;>simp at j) (h _ ((Below.refl _ _).drew)));rw [b.mem_iff,List.mem_range];constructor;intro hi;exact⟨by simpa using hi,by simp [Array.getD_eq_getD_getElem?,hi]⟩;exact λh=>by simpa using h.1
theorem aFo {id N:Nat}{l:List Oper}{Qx:Exit->Env->World->Prop}{a:Act}{w:World}{σ:List Nat}(o: ∀i B,kd i= .mk B-> ∀w,I w->B<=w.heap.size)(hm:P.follows .mixedOrders=true)(r:Region.noSelect l.toArray=true)(f:edgesB .any l.toArray=true)(s:pairB .any l.toArray kd σ=true)
    (b:σ.Perm (List.range l.length))(n: ∀w w',I w->fO w w'->I w')(t:I w)(h: ∀w',fO w w'->kE P I l.toArray kd (λ_ a w=> ∃c,Fits N a c/\Qx .normal c w) σ (some λ_=>False) a w'):(Code.region id l.toArray true).wp P (aFx N Qx) a w:=by
 refine wp_region_any hm (aDw o (Region.noSelect_spec r) n f (λ_ _ _ h=>h) _ _ σ (some λ_=>False) a _ (by simp) (b.nodup_iff.2 List.nodup_range) (λi=>?_) s (by rw [b.length_eq];simp) (n _ _ t ((Below.refl _ _).drew)) (λ_ e _ u=>by cases e;exact u.elim) (λ_ _ j _=>by simp [Array.getD_eq_getD_getElem?,Array.getElem?_replicate]at j;split at j<;>simp at j) (h _ ((Below.refl _ _).drew)));rw [b.mem_iff,List.mem_range];constructor;intro hi;exact⟨by simpa using hi,by simp [Array.getD_eq_getD_getElem?,hi]⟩;exact λh=>by simpa using h.1
end

def kdOf (κ:List Kd)(i:Nat):Kd:=κ.getD i .pure

def XL (P:Program)(I:World->Prop)(N:Nat)(ops:Array Oper)(κ:List Kd)(K:Mm->Env->World->Prop)(M:Mm)(σ:List Nat)(l:List Oper)(ρ:Env)(w:World):Prop:=
 (l.map some=σ.map λi=>ops[i]?)-> ∀w',fO w w'->I w'-> ∀a,Fits N a ρ->kE P I ops (kdOf κ) (λM a w=> ∃b,Fits N a b/\K M b w) σ M a w'

section
variable {P:Program}{I:World->Prop}{N:Nat}{ops:Array Oper}{κ:List Kd}{K:Mm->Env->World->Prop}{Q:Exit->Env->World->Prop}{k:Nat}{M:Mm}{σ:List Nat}{rest:List Oper}{ρ:Env}{w:World}{v:Value}{d:Nat}{op:Op}{ty:TypeId}{pos:String}{af:Array Edge}{g:Option (Nat×Bool)}
def sel (l:List Oper):List Nat->List Oper
 | []=>[]
 |i::σ=>match l[i]? with
  |some o=>o::sel l σ
  |none=>[]
theorem aGu (l:List Oper): ∀(σ:List Nat),(∀i∈σ,i<l.length)->(sel l σ).map some=σ.map λi=>l.toArray[i]?
 | [],_=>rfl
 |i::σ,h=>by
  have hi:=h i List.mem_cons_self;have a:=aGu l σ (λj b=>h j (List.mem_cons_of_mem _ b));unfold sel;rw [gE hi];simp only [List.map_cons,a];simp [hi]
theorem WP_mix {id:Nat}{l:List Oper}(σ:List Nat)(κ:List Kd)(n: ∀i B,kdOf κ i= .mk B-> ∀w,I w->B<=w.heap.size)(hm:P.follows .mixedOrders=true)(o:Region.noSelect l.toArray=true)(e:edgesB .any l.toArray=true)(p:pairB .any l.toArray (kdOf κ) σ=true)
    (b:σ.isPerm (List.range l.length)=true)(f: ∀w w',I w->fO w w'->I w')(j:I w)(h:XL P I N l.toArray κ (λ_ ρ w=>Q .normal ρ w) (some λ_=>False) σ (sel l σ) ρ w):WP P N (.region id l.toArray true) Q ρ w:=by
 have b:σ.Perm (List.range l.length):=List.isPerm_iff.1 b;intro a q;refine aFo (I:=I) (σ:=σ) n hm o e p b f j (λw' c=>?_);exact h (aGu l σ λi hi=>List.mem_range.1 (b.mem_iff.1 hi)) w' c (f _ _ j c) a q
theorem yI {id:Nat}{l:List Oper}(σ:List Nat)(κ:List Kd)(n: ∀i B,kdOf κ i= .mk B-> ∀w,I w->B<=w.heap.size)(hm:P.follows .mixedOrders=true)(o:Region.noSelect l.toArray=true)(e:edgesB .any l.toArray=true)(p:pairB .any l.toArray (kdOf κ) σ=true)
    (b:σ=List.range l.length)(f: ∀w w',I w->fO w w'->I w')(j:I w)(h:XL P I N l.toArray κ (λ_ ρ w=>Q .normal ρ w) (some λ_=>False) σ l ρ w):WP P N (.region id l.toArray true) Q ρ w:=by
 intro a q;refine aFo (I:=I) (σ:=σ) n hm o e p (by rw [b]) f j (λw' c=>?_);refine h ?_ w' c (f _ _ j c) a q;rw [b];apply List.ext_getElem;simp;intro i _ _;simp

theorem yZ (h: ∀w',fO w w'->K M ρ w'):XL P I N ops κ K M σ [] ρ w:=by
 intro b w' a _ _ c;have:σ=[]:=by
  have:=congrArg List.length b;simp at this;exact List.eq_nil_of_length_eq_zero this.symm
 subst this;exact⟨ρ,c,h w' a⟩
theorem XL.head {o:Oper}(a:(o::rest).map some=(k::σ).map λi=>ops[i]?):ops[k]? =some o:=by
 simp only [List.map_cons,List.cons.injEq]at a;exact a.1.symm
theorem XL.tail {o:Oper}(a:(o::rest).map some=(k::σ).map λi=>ops[i]?):rest.map some=σ.map λi=>ops[i]? :=by
 simp only [List.map_cons,List.cons.injEq]at a;exact a.2

theorem XL_pure (f:kdOf κ k= .pure)(i:fU N ops ρ ⟨some d,op,ty,pos,af,g⟩=true)(hd:Nat.blt d N=true)(h: ∀w',I w'->Do P ⟨some d,op,ty,pos,af,g⟩ ρ w' v w')(n:XL P I N ops κ K M σ rest (upd ρ d v) w):
    XL P I N ops κ K M (k::σ) (⟨some d,op,ty,pos,af,g⟩::rest) ρ w:=by
 intro e w' b j _ c;simp only [kE];unfold xOp;simp only [XL.head e,f];exact⟨v,.inl ⟨by rw [c.wanted];exact i,λl o=>by rw [c.eval];exact h l o⟩,n (XL.tail e) w' b j _ (c.put (dQ hd) v)⟩
theorem XL_offp (f:kdOf κ k= .pure)(h:fU N ops ρ ⟨some d,op,ty,pos,af,g⟩=false)(hd:Nat.blt d N=true)(n:XL P I N ops κ K M σ rest (upd ρ d undef) w):
    XL P I N ops κ K M (k::σ) (⟨some d,op,ty,pos,af,g⟩::rest) ρ w:=by
 intro c w' b i _ e;simp only [kE];unfold xOp;simp only [XL.head c,f];exact⟨undef,.inr ⟨by rw [e.wanted];exact h,rfl⟩,n (XL.tail c) w' b i _ (e.put (dQ hd) _)⟩
theorem XL_offr (h: ∀w w',I w->fO w w'->I w')(i:kdOf κ k= .read)(j:fU N ops ρ ⟨some d,op,ty,pos,af,g⟩=false)(hd:Nat.blt d N=true)(n:XL P I N ops κ K M σ rest (upd ρ d undef) w):
    XL P I N ops κ K M (k::σ) (⟨some d,op,ty,pos,af,g⟩::rest) ρ w:=by
 intro c w' b l _ e;simp only [kE];unfold xOp;simp only [XL.head c,i];exact⟨undef,.inr ⟨by rw [e.wanted];exact j,rfl⟩,λo f=>n (XL.tail c) o (b.trans f) (h _ _ l f) _ (e.put (dQ hd) _)⟩
theorem xC (j: ∀w w',I w->fO w w'->I w')(l:kdOf κ k= .read)(o:fU N ops ρ ⟨some d,op,ty,pos,af,g⟩=true)(hd:Nat.blt d N=true)(h: ∀w',fO w w'->Do P ⟨some d,op,ty,pos,af,g⟩ ρ w' v w')(n:XL P I N ops κ K M σ rest (upd ρ d v) w):
    XL P I N ops κ K M (k::σ) (⟨some d,op,ty,pos,af,g⟩::rest) ρ w:=by
 intro i w' b p _ f;simp only [kE];unfold xOp;simp only [XL.head i,l];refine⟨v,.inl ⟨by rw [f.wanted];exact o,λc e=>?_⟩,λc e=>n (XL.tail i) c (b.trans e) (j _ _ p e) _ (f.put (dQ hd) v)⟩;rw [f.eval,show(execOp (ev ρ) _).run P c=_ from h c (b.trans e)];exact⟨rfl,rfl⟩
theorem XL_call {f:FuncId}{args:Array Value}(p: ∀w w',I w->fO w w'->I w')(q:kdOf κ k= .read)(r:fU N ops ρ ⟨some d,op,ty,pos,af,g⟩=true)(hd:Nat.blt d N=true)(h: ∀w',fO w w'->DoC P ⟨some d,op,ty,pos,af,g⟩ ρ w' f args)
    (s: ∀w',fO w w'->Calls P f args w' λe j=>e= .returned v/\Below w'.heap.size w' j)(n:XL P I N ops κ K M σ rest (upd ρ d v) w):
    XL P I N ops κ K M (k::σ) (⟨some d,op,ty,pos,af,g⟩::rest) ρ w:=by
 intro o w' b t _ l;simp only [kE];unfold xOp;simp only [XL.head o,q];refine⟨v,.inl ⟨by rw [l.wanted];exact r,λc i=>?_⟩,λc i=>n (XL.tail o) c (b.trans i) (p _ _ t i) _ (l.put (dQ hd) v)⟩;rw [l.eval,show(execOp (ev ρ) _).run P c=_ from h c (b.trans i)];exact⟨rfl,(s c (b.trans i)).mono λe _ ⟨u,x⟩=>⟨u,x⟩⟩
theorem XL_fcall {f:FuncId}{args:Array Value}(p: ∀w w',I w->fO w w'->I w')(q:kdOf κ k= .fcall)(r:fU N ops ρ ⟨some d,op,ty,pos,af,g⟩=true)(hd:Nat.blt d N=true)(h: ∀w',I w'->DoC P ⟨some d,op,ty,pos,af,g⟩ ρ w' f args)
    (s: ∀w',I w'->Calls P f args w' λe i=>e= .returned v/\Below w'.heap.size w' i)(n:XL P I N ops κ K M σ rest (upd ρ d v) w):
    XL P I N ops κ K M (k::σ) (⟨some d,op,ty,pos,af,g⟩::rest) ρ w:=by
 intro o w' j t _ l;simp only [kE];unfold xOp;simp only [XL.head o,q];refine⟨v,.inl ⟨by rw [l.wanted];exact r,λb c=>?_⟩,λb c=>n (XL.tail o) b (j.trans c) (p _ _ t c) _ (l.put (dQ hd) v)⟩;rw [l.eval,show(execOp (ev ρ) _).run P b=_ from h b c];exact⟨rfl,(s b c).mono λe _ ⟨u,x⟩=>⟨u,x⟩⟩
theorem XL_splitb {b:Bool}{x:Operand}(a:kdOf κ k= .pure)(c:fU N ops ρ ⟨some d,.move x,ty,pos,af,g⟩=true)(hd:Nat.blt d N=true)(e:ev ρ x= .bool b)
    (f:b=true->XL P I N ops κ K M σ rest (upd ρ d (.bool true)) w)(h:b=false->XL P I N ops κ K M σ rest (upd ρ d (.bool false)) w):XL P I N ops κ K M (k::σ) (⟨some d,.move x,ty,pos,af,g⟩::rest) ρ w:=by
 refine XL_pure (v:= .bool b) a c hd (λ_ _=>by unfold Do;simp [execOp,e]) ?_;cases b;exact h rfl;exact f rfl
theorem XL_exN {R:World->Value->World->Prop}(j: ∀w w',I w->fO w w'->I w')(p:kdOf κ k= .new)(q:fU N ops ρ ⟨some d,op,ty,pos,af,g⟩=true)(hd:Nat.blt d N=true)
    (h: ∀b,fO w b-> ∃v w',Do P ⟨some d,op,ty,pos,af,g⟩ ρ b v w'/\fO b w'/\R b v w')(n: ∀b v w',fO w b->R b v w'->XL P I N ops κ K M σ rest (upd ρ d v) w'):XL P I N ops κ K M (k::σ) (⟨some d,op,ty,pos,af,g⟩::rest) ρ w:=by
 intro l w' c r _ f;obtain⟨v,i,s,o,t⟩:=h w' c;simp only [kE];unfold xOp;simp only [XL.head l,p];exact .inl ⟨by rw [f.wanted];exact q,.inl ⟨v,i,by rw [f.eval];exact s,o,λu e=>n _ _ _ c t (XL.tail l) u e (j _ _ (j _ _ r o) e) _ (f.put (dQ hd) v)⟩⟩
theorem XL_newC {f:FuncId}{args:Array Value}{R:World->Ending->World->Prop}(l: ∀w w',I w->fO w w'->I w')(q:kdOf κ k= .new)(r:fU N ops ρ ⟨some d,op,ty,pos,af,g⟩=true)(hd:Nat.blt d N=true)(h: ∀w',fO w w'->DoC P ⟨some d,op,ty,pos,af,g⟩ ρ w' f args)
    (s: ∀w',fO w w'->Calls P f args w' (R w'))(n: ∀w' e b,fO w w'->R w' e b-> ∃v,e= .returned v/\fO w' b/\XL P I N ops κ K M σ rest (upd ρ d v) b):XL P I N ops κ K M (k::σ) (⟨some d,op,ty,pos,af,g⟩::rest) ρ w:=by
 intro o w' c t _ j;simp only [kE];unfold xOp;simp only [XL.head o,q];refine .inl ⟨by rw [j.wanted];exact r,.inr ⟨f,args,by rw [j.eval];exact h w' c,(s w' c).mono λe b u=>?_⟩⟩;obtain⟨v,x,p,y⟩:=n w' e b c u;exact⟨v,x,p,λz i=>y (XL.tail o) z i (l _ _ (l _ _ t p) i) _ (j.put (dQ hd) v)⟩
theorem XL_ex {R:World->Value->World->Prop}(o: ∀w w',I w->fO w w'->I w')(p:kdOf κ k= .eff)(q:fU N ops ρ ⟨some d,op,ty,pos,af,g⟩=true)(hd:Nat.blt d N=true)(h: ∀b,fO w b-> ∃v w',Do P ⟨some d,op,ty,pos,af,g⟩ ρ b v w'/\R b v w')
    (n: ∀b v w',fO w b->R b v w'->I w'/\XL P I N ops κ K none σ rest (upd ρ d v) w'):XL P I N ops κ K M (k::σ) (⟨some d,op,ty,pos,af,g⟩::rest) ρ w:=by
 intro l w' c _ _ f;obtain⟨v,i,r,s⟩:=h w' c;simp only [kE];unfold xOp;simp only [XL.head l,p];have j:=n _ _ _ c s;exact .inl ⟨by rw [f.wanted];exact q,.inl ⟨v,i,by rw [f.eval];exact r,j.1,none,pV.no,λt e=>j.2 (XL.tail l) t e (o _ _ j.1 e) _ (f.put (dQ hd) v)⟩⟩
theorem XL_exU {R:World->World->Prop}(o: ∀w w',I w->fO w w'->I w')(p:kdOf κ k= .eff)(q:fU N ops ρ ⟨none,op,ty,pos,af,g⟩=true)(h: ∀b,fO w b-> ∃w',DoU P ⟨none,op,ty,pos,af,g⟩ ρ b w'/\R b w')
    (n: ∀b w',fO w b->R b w'->I w'/\XL P I N ops κ K none σ rest ρ w'):XL P I N ops κ K M (k::σ) (⟨none,op,ty,pos,af,g⟩::rest) ρ w:=by
 intro l w' c _ _ f;obtain⟨i,r,s⟩:=h w' c;simp only [kE];unfold xOp;simp only [XL.head l,p];have j:=n _ _ c s;exact .inl ⟨by rw [f.wanted];exact q,.inr (.inl ⟨i,by rw [f.eval];exact r,j.1,none,pV.no,λt e=>j.2 (XL.tail l) t e (o _ _ j.1 e) _ f⟩)⟩
theorem XL_effC {f:FuncId}{args:Array Value}{R:World->Ending->World->Prop}(p: ∀w w',I w->fO w w'->I w')(q:kdOf κ k= .eff)(r:fU N ops ρ ⟨some d,op,ty,pos,af,g⟩=true)(hd:Nat.blt d N=true)(h: ∀w',fO w w'->DoC P ⟨some d,op,ty,pos,af,g⟩ ρ w' f args)
    (s: ∀w',fO w w'->Calls P f args w' (R w'))(n: ∀w' e b,fO w w'->R w' e b-> ∃v,e= .returned v/\I b/\XL P I N ops κ K none σ rest (upd ρ d v) b):XL P I N ops κ K M (k::σ) (⟨some d,op,ty,pos,af,g⟩::rest) ρ w:=by
 intro l w' c _ _ j;simp only [kE];unfold xOp;simp only [XL.head l,q];refine .inl ⟨by rw [j.wanted];exact r,.inr (.inr ⟨f,args,by rw [j.eval];exact h w' c,(s w' c).mono λe b t=>?_⟩)⟩;obtain⟨v,u,o,x⟩:=n w' e b c t;exact⟨v,u,o,none,pV.no,λy i=>x (XL.tail l) y i (p _ _ o i) _ (j.put (dQ hd) v)⟩
theorem XL_exP {R:Value->Prop}(a:kdOf κ k= .pure)(b:fU N ops ρ ⟨some d,op,ty,pos,af,g⟩=true)(hd:Nat.blt d N=true)(h: ∃v,(∀w',Do P ⟨some d,op,ty,pos,af,g⟩ ρ w' v w')/\R v)(n: ∀v,R v->XL P I N ops κ K M σ rest (upd ρ d v) w):
    XL P I N ops κ K M (k::σ) (⟨some d,op,ty,pos,af,g⟩::rest) ρ w:=by
 obtain⟨v,c,e⟩:=h;exact XL_pure a b hd (λw' _=>c w') (n v e)
theorem XL_mk {A:Nat->Prop}{B:Nat}{m:Mk}{cs:List Value}{T:TypeId}(o: ∀w w',I w->fO w w'->I w')(p:kdOf κ k= .mk B)(q:fU N ops ρ ⟨some d,op,ty,pos,af,g⟩=true)(hd:Nat.blt d N=true)
    (h: ∀w',I w'->Do P ⟨some d,op,ty,pos,af,g⟩ ρ w' (m.val w'.heap.size) (w'.alloc (.cells cs.toArray T)))
    (n: ∀b c,fO w c->B<=b-> ¬A b->Blk c b cs T->XL P I N ops κ K (some λx=>x=b\/A x) σ rest (upd ρ d (m.val b)) c):XL P I N ops κ K (some A) (k::σ) (⟨some d,op,ty,pos,af,g⟩::rest) ρ w:=by
 intro i w' e r _ f;simp only [kE];unfold xOp;simp only [XL.head i,p];refine .inl ⟨by rw [f.wanted];exact q,A,m,cs,T,rfl,λs t=>by rw [f.eval];exact h s t,λb j l u y z=>?_⟩;exact n b j (e.trans l) u y z (XL.tail i) j (fO.refl _) (o _ _ r l) _ (f.put (dQ hd) _)
theorem XL_exA {R:World->Value->World->Prop}(p: ∀w w',I w->fO w w'->I w')(q:kdOf κ k= .eff)(r:fU N ops ρ ⟨some d,op,ty,pos,af,g⟩=true)(hd:Nat.blt d N=true)(h: ∀b,fO w b-> ∃v w',Do P ⟨some d,op,ty,pos,af,g⟩ ρ b v w'/\R b v w')
    (n: ∀b v w',fO w b->R b v w'->I w'/\XL P I N ops κ K (some λx=>x<w'.heap.size) σ rest (upd ρ d v) w'):XL P I N ops κ K M (k::σ) (⟨some d,op,ty,pos,af,g⟩::rest) ρ w:=by
 intro o w' c _ _ i;obtain⟨v,j,s,t⟩:=h w' c;simp only [kE];unfold xOp;simp only [XL.head o,q];have l:=n _ _ _ c t;exact .inl ⟨by rw [i.wanted];exact r,.inl ⟨v,j,by rw [i.eval];exact s,l.1,_,λ_ e x u=>by cases e;exact u,λy f=>l.2 (XL.tail o) y f (p _ _ l.1 f) _ (i.put (dQ hd) v)⟩⟩
theorem upd_comm (ρ:Env){d e:Nat}(h:d≠e)(u v:Value):upd (upd ρ d u) e v=upd (upd ρ e v) d u:=by
 funext x;unfold upd;by_cases b:x=e<;>by_cases c:x=d<;>simp [b,c];exact absurd (c.symm.trans b) h;intro a;exact absurd a.symm h;intro a;exact absurd a h
theorem XL_join {u v du dv:Nat}{j l:Oper}(f:Value->Value->World->Prop)
  (B:XL P I N ops κ (λ_ b w'=> ∃c vb,b=upd (upd ρ du c) dv vb/\I w'/\f c vb w') M [u,v] [j,l] ρ w)
  (C:XL P I N ops κ (λ_ b w'=> ∃c vb,b=upd (upd ρ du c) dv vb/\I w'/\f c vb w') M [v,u] [l,j] ρ w)
  (post: ∀o c vb w',f c vb w'->XL P I N ops κ K o σ rest (upd (upd ρ du c) dv vb) w'):
  XL P I N ops κ K M (u::v::σ) (j::l::rest) ρ w/\XL P I N ops κ K M (v::u::σ) (l::j::rest) ρ w:=by
 have A: ∀{p q:Nat}{op oq:Oper},XL P I N ops κ (λ_ b w'=> ∃c vb,b=upd (upd ρ du c) dv vb/\I w'/\f c vb w') M [p,q] [op,oq] ρ w->XL P I N ops κ K M (p::q::σ) (op::oq::rest) ρ w:=by
  intro p q op oq h n w' r D a E;have s:rest.map some=σ.map λi=>ops[i]? :=XL.tail (XL.tail n)
  have t:[op,oq].map some=[p,q].map λi=>ops[i]? :=by
   simp only [List.map_cons,List.cons.injEq,List.map_nil]at n⊢;exact⟨n.1,n.2.1,trivial⟩
  have F:=h t w' r D a E;have e:p::q::σ=[p,q]++σ:=rfl;rw [e,wF];refine qG (λo a x ⟨b,G,c,vb,y,z,hm⟩=>?_) [p,q] M a w' F;subst y;exact post o c vb x hm s x (fO.refl x) z a G
 exact⟨A B,A C⟩
theorem WP_fork {id:Nat}{l:List Oper}{I0:World->Prop}(pre:List Nat)(u v:Nat)(post l2:List Nat)(κ:List Kd)(q: ∀i B,kdOf κ i= .mk B-> ∀w,I w->B<=w.heap.size)(r: ∀i B,kdOf κ i= .mk B-> ∀w,I0 w->B<=w.heap.size)(hm:P.follows .mixedOrders=true)(E:Region.noSelect l.toArray=true)(s:edgesB .any l.toArray=true)(F:forkB .any l.toArray (kdOf κ) pre u v post=true)(G:barB .any l.toArray (kdOf κ) (pre++u::v::post) l2=true)(t:pairB .any l.toArray (kdOf κ) l2=true)
  (c:(pre++u::v::(post++l2)).isPerm (List.range l.length)=true)(o: ∀w w',I w->fO w w'->I w')(y: ∀w w',I0 w->fO w w'->I0 w')(z:I w)
  (h:XL P I N l.toArray κ (λM ρ w=>XL P I N l.toArray κ (λ_ ρ w=>I0 w/\XL P I0 N l.toArray κ (λ_ ρ w=>Q .normal ρ w) none l2 (sel l l2) ρ w) M (u::v::post) (sel l (u::v::post)) ρ w/\XL P I N l.toArray κ (λ_ ρ w=>I0 w/\XL P I0 N l.toArray κ (λ_ ρ w=>Q .normal ρ w) none l2 (sel l l2) ρ w) M (v::u::post) (sel l (v::u::post)) ρ w) (some λ_=>False) pre (sel l pre) ρ w):WP P N (.region id l.toArray true) Q ρ w:=by
 have c:(pre++u::v::(post++l2)).Perm (List.range l.length):=List.isPerm_iff.1 c;have f: ∀i∈pre++u::v::(post++l2),i<l.length:=λi hi=>List.mem_range.1 (c.mem_iff.1 hi)
 intro a H;refine aNs (I:=I) (I0:=I0) (pre:=pre) (post:=post) (l2:=l2) (u:=u) (v:=v) q r hm E s F G t c o y z (λw' j=>?_);have J:=h (aGu l pre λi hi=>f i (List.mem_append_left _ hi)) w' j (o _ _ z j) a H;have L:=aTa o pre _ a w' (o _ _ z j) (λ_ e _ C=>by cases e;exact C.elim) J;have fin: ∀{a w},(∃b,Fits N a b/\(I0 w/\XL P I0 N l.toArray κ (λ_ ρ w=>Q .normal ρ w) none l2 (sel l l2) b w))->I0 w/\kE P I0 l.toArray (kdOf κ) (λ_ a w=> ∃b,Fits N a b/\Q .normal b w) l2 none a w:=λ {a w} ⟨b,p,D,C⟩=>
  ⟨D,C (aGu l l2 λi hi=>f i (List.mem_append_right _ (List.mem_cons_of_mem _ (List.mem_cons_of_mem _ (List.mem_append_right _ hi))))) w (fO.refl w) D a p⟩
 refine qG (λM a w ⟨n,b,p,O,q⟩=>⟨?_,?_⟩) pre _ a w' L
 ·exact qG (λ_ _ _ h=>fin h) _ _ _ _ (O (aGu l _ λi hi=>f i (List.mem_append_right _ (by simp at hi⊢;rcases hi with h|h|h<;>simp [h]))) w (fO.refl w) n a p)
 ·exact qG (λ_ _ _ h=>fin h) _ _ _ _ (q (aGu l _ λi hi=>f i (List.mem_append_right _ (by simp at hi⊢;rcases hi with h|h|h<;>simp [h]))) w (fO.refl w) n a p)
end
end Go.MxM
