/- Laws that the claim stands on; no condition beyond those stated. -/
import Derived.Test.YtbjofgmdhbiekaaGreatDoorObB
namespace Go.MxM
open Go.OB
open Go.RowKit

inductive Kd where
 |pure|fcall|read|new|eff
 |mk (B:Nat)
inductive Mk where
 |ptr
 |sl (n:Nat)
def Mk.val:Mk->Nat->Value
 | .ptr,b=> .pointer (some ⟨b,0,none⟩)
 | .sl n,b=> .slice (some ⟨b,0,none⟩) n n
theorem Mk.inj {m m':Mk}{b:Nat}(h:m.val b=m'.val b):m=m':=by
 cases m<;>cases m'<;>simp [Mk.val]at h⊢;exact h
abbrev Mm:=Option (Nat->Prop)
def Kd.isMk:Kd->Bool
 | .mk _=>true|_=>false
theorem alloc_inj {w:World}{cs cs':List Value}{T b:TypeId}(h:w.alloc (.cells cs.toArray T)=w.alloc (.cells cs'.toArray b)):cs=cs'/\T=b:=by
 have h1:=(Al.mk' w cs T).blk;rw [h]at h1;have a:=(Al.mk' w cs' b).blk;unfold Blk at h1 a;rw [h1]at a;simp at a;exact a
theorem Blk.Z {w w':World}{b:Nat}{cs:List Value}{T:TypeId}(h:Blk w b cs T)(a:fK w w'):Blk w' b cs T:=h.only (Only.of_below a) (by simp)
def Kd.isPure:Kd->Bool
 | .pure=>true|_=>false
def Kd.isFcall:Kd->Bool
 | .fcall=>true|_=>false
def Kd.isRead:Kd->Bool
 | .read=>true|_=>false
def Kd.isNew:Kd->Bool
 | .new=>true|_=>false
def aDb (P:Program)(I:World->Prop)(ops:Array Oper)(o:Oper)(v:Value)(a:Act):Prop:=
 (Region.wanted o (yielded ops a.tmps)=true/\ ∀w',I w'->(execOp a.eval o).run P w'= .ok (.value v) w')\/(Region.wanted o (yielded ops a.tmps)=false/\v=undef)
def aLl (P:Program)(I:World->Prop)(ops:Array Oper)(o:Oper)(v:Value)(a:Act):Prop:=
 (Region.wanted o (yielded ops a.tmps)=true/\ ∀w',I w'->aBl P w' v ((execOp a.eval o).run P w'))\/(Region.wanted o (yielded ops a.tmps)=false/\v=undef)

def nM (M:Mm)(w:World):Prop:= ∀A,M=some A-> ∀x,A x->x<w.heap.size
theorem nM.Z {M:Mm}{w w':World}(h:nM M w)(a:fK w w'):nM M w':=λA e x b=>Nat.lt_of_lt_of_le (h A e x b) a.size
theorem nM.no {w:World}:nM none w:=λ_ e=>by cases e
theorem nM.mk {A:Nat->Prop}{w w':World}{b:Nat}{cs:List Value}{T:TypeId}(h:nM (some A) w)(c:fK w w')(f:Blk w' b cs T):nM (some λx=>x=b\/A x) w':=by
 intro _ e x a
 cases e
 rcases a with rfl|a
 ·exact(Array.getElem?_eq_some_iff.1 f).1
 ·exact(h.Z c) A rfl x a
theorem nM.new {A:Nat->Prop}{w:World}(h:nM (some A) w): ¬A w.heap.size:=λa=>Nat.lt_irrefl _ (h A rfl _ a)

def xOp (P:Program)(I:World->Prop)(ops:Array Oper)(kd:Nat->Kd)(i:Nat)(K:Mm->Act->World->Prop)(M:Mm)(a:Act)(w:World):Prop:=
  match ops[i]? with
  |none=>False
  |some o=>match kd i with
    | .pure=> ∃v,aDb P I ops o v a/\K M (a.put o.dst v) w
    | .fcall=> ∃v,aLl P I ops o v a/\ ∀w',fK w w'->K M (a.put o.dst v) w'
    | .read=> ∃v,aBs P ops w o v a/\ ∀w',fK w w'->K M (a.put o.dst v) w'
    | .new=>(Region.wanted o (yielded ops a.tmps)=true/\
        ((∃v w',(execOp a.eval o).run P w= .ok (.value v) w'/\fK w w'/\ ∀c,fK w' c->K M (a.put o.dst v) c)\/
         (∃f args,(execOp a.eval o).run P w= .ok (.enter f args) w/\Calls P f args w λe w'=> ∃v,e= .returned v/\fK w w'/\ ∀c,fK w' c->K M (a.put o.dst v) c)))\/
        (Region.wanted o (yielded ops a.tmps)=false/\ ∀c,fK w c->K M (a.put o.dst undef) c)
    | .eff=>(Region.wanted o (yielded ops a.tmps)=true/\
        ((∃v w',(execOp a.eval o).run P w= .ok (.value v) w'/\I w'/\ ∃h,nM h w'/\ ∀c,fK w' c->K h (a.put o.dst v) c)\/(∃w',(execOp a.eval o).run P w= .ok .skip w'/\I w'/\ ∃h,nM h w'/\ ∀c,fK w' c->K h (a.put o.dst undef) c)\/
         (∃f args,(execOp a.eval o).run P w= .ok (.enter f args) w/\Calls P f args w λe w'=> ∃v,e= .returned v/\I w'/\ ∃h,nM h w'/\ ∀c,fK w' c->K h (a.put o.dst v) c)))\/
        (Region.wanted o (yielded ops a.tmps)=false/\ ∀c,fK w c->K M (a.put o.dst undef) c)
    | .mk B=>(Region.wanted o (yielded ops a.tmps)=true/\ ∃(A:Nat->Prop) (m:Mk) (cs:List Value) (T:TypeId),M=some A/\(∀w',I w'->(execOp a.eval o).run P w'= .ok (.value (m.val w'.heap.size)) (w'.alloc (.cells cs.toArray T)))/\
        ∀b c,fK w c->B<=b-> ¬A b->Blk c b cs T->K (some λx=>x=b\/A x) (a.put o.dst (m.val b)) c)\/
        (Region.wanted o (yielded ops a.tmps)=false/\ ∀c,fK w c->K M (a.put o.dst undef) c)

def aB (P:Program)(I:World->Prop)(ops:Array Oper)(kd:Nat->Kd)(Q:Mm->Act->World->Prop):List Nat->Mm->Act->World->Prop
 | [],M,a,w=>Q M a w
 |i::l,M,a,w=>xOp P I ops kd i (aB P I ops kd Q l) M a w

section
variable {P:Program}{I:World->Prop}{ops:Array Oper}{kd:Nat->Kd}{Q:Mm->Act->World->Prop}

theorem aLy {i:Nat}{K t:Mm->Act->World->Prop}{M:Mm}{a:Act}{w:World} (h: ∀o M v w,ops[i]? =some o->K M (a.put o.dst v) w->t M (a.put o.dst v) w) (hh:xOp P I ops kd i K M a w):xOp P I ops kd i t M a w:=by
 unfold xOp at *
 cases ho:ops[i]? with
 |none=>simp only [ho]at hh
 |some o=>
  have h:=λM v w=>h o M v w ho
  simp only [ho]at hh⊢
  cases hk:kd i<;>simp only [hk]at hh⊢
  ·obtain⟨v,h1,l⟩:=hh;exact⟨v,h1,h _ _ _ l⟩
  ·obtain⟨v,h1,l⟩:=hh;exact⟨v,h1,λw' j=>h _ _ _ (l w' j)⟩
  ·obtain⟨v,h1,l⟩:=hh;exact⟨v,h1,λw' j=>h _ _ _ (l w' j)⟩
  ·rcases hh with ⟨n,hh⟩|⟨n,hh⟩
   rotate_left
   ·exact .inr ⟨n,λc j=>h _ _ _ (hh c j)⟩
   refine .inl ⟨n,?_⟩;rcases hh with ⟨v,w',h1,q,l⟩|⟨f,args,h1,l⟩
   ·exact .inl ⟨v,w',h1,q,λc j=>h _ _ _ (l c j)⟩
   ·exact .inr ⟨f,args,h1,l.mono λe w' ⟨v,s,q,hk⟩=>⟨v,s,q,λc j=>h _ _ _ (hk c j)⟩⟩
  ·rcases hh with ⟨n,hh⟩|⟨n,hh⟩
   rotate_left
   ·exact .inr ⟨n,λc j=>h _ _ _ (hh c j)⟩
   refine .inl ⟨n,?_⟩;rcases hh with ⟨v,w',h1,q,r,p,l⟩|⟨w',h1,q,r,p,l⟩|⟨f,args,h1,l⟩
   ·exact .inl ⟨v,w',h1,q,r,p,λc j=>h _ _ _ (l c j)⟩
   ·exact .inr (.inl ⟨w',h1,q,r,p,λc j=>h _ _ _ (l c j)⟩)
   ·exact .inr (.inr ⟨f,args,h1,l.mono λe w' ⟨v,s,q,r,p,hk⟩=>⟨v,s,q,r,p,λc j=>h _ _ _ (hk c j)⟩⟩)
  ·rcases hh with ⟨n,A,m,cs,T,u,h1,l⟩|⟨n,hh⟩
   ·exact .inl ⟨n,A,m,cs,T,u,h1,λb c x y z B=>h _ _ _ (l b c x y z B)⟩
   ·exact .inr ⟨n,λc j=>h _ _ _ (hh c j)⟩

theorem aJv {i:Nat}{K b:Mm->Act->World->Prop}(h: ∀M a w,K M a w->b M a w){M:Mm}{a:Act}{w:World}(hh:xOp P I ops kd i K M a w):xOp P I ops kd i b M a w:=aLy (λ_ _ _ _ _=>h _ _ _) hh

theorem aYy {i:Nat}{K:Mm->Act->World->Prop}{M:Mm}{a:Act}{w:World} (p: ∀w w',I w->fK w w'->I w') (r:I w) (s:nM M w) (hh:xOp P I ops kd i K M a w):xOp P I ops kd i (λM a w=>I w/\nM M w/\K M a w) M a w:=by
 unfold xOp at *
 cases ho:ops[i]? with
 |none=>simp only [ho]at hh
 |some _=>
  simp only [ho]at hh⊢
  cases hk:kd i<;>simp only [hk]at hh⊢
  ·obtain⟨v,h1,j⟩:=hh;exact⟨v,h1,r,s,j⟩
  ·obtain⟨v,h1,j⟩:=hh;exact⟨v,h1,λw' c=>⟨p _ _ r c,s.Z c,j w' c⟩⟩
  ·obtain⟨v,h1,j⟩:=hh;exact⟨v,h1,λw' c=>⟨p _ _ r c,s.Z c,j w' c⟩⟩
  ·rcases hh with ⟨q,hh⟩|⟨q,hh⟩
   rotate_left
   ·exact .inr ⟨q,λh c=>⟨p _ _ r c,s.Z c,hh h c⟩⟩
   refine .inl ⟨q,?_⟩;rcases hh with ⟨v,w',h1,n,j⟩|⟨f,args,h1,j⟩
   ·exact .inl ⟨v,w',h1,n,λh c=>⟨p _ _ (p _ _ r n) c,(s.Z n).Z c,j h c⟩⟩
   ·exact .inr ⟨f,args,h1,j.mono λe w' ⟨v,u,n,hk⟩=>⟨v,u,n,λh c=>⟨p _ _ (p _ _ r n) c,(s.Z n).Z c,hk h c⟩⟩⟩
  ·rcases hh with ⟨q,hh⟩|⟨q,hh⟩
   rotate_left
   ·exact .inr ⟨q,λh c=>⟨p _ _ r c,s.Z c,hh h c⟩⟩
   refine .inl ⟨q,?_⟩;rcases hh with ⟨v,w',h1,n,t,l,j⟩|⟨w',h1,n,t,l,j⟩|⟨f,args,h1,j⟩
   ·exact .inl ⟨v,w',h1,n,t,l,λh c=>⟨p _ _ n c,l.Z c,j h c⟩⟩
   ·exact .inr (.inl ⟨w',h1,n,t,l,λh c=>⟨p _ _ n c,l.Z c,j h c⟩⟩)
   ·exact .inr (.inr ⟨f,args,h1,j.mono λe w' ⟨v,u,n,t,l,hk⟩=>⟨v,u,n,t,l,λh c=>⟨p _ _ n c,l.Z c,hk h c⟩⟩⟩)
  ·rcases hh with ⟨q,A,m,cs,T,z,h1,j⟩|⟨q,hh⟩
   ·subst z;exact .inl ⟨q,A,m,cs,T,rfl,h1,λb h x B C y=>⟨p _ _ r x,s.mk x y,j b h x B C y⟩⟩
   ·exact .inr ⟨q,λh c=>⟨p _ _ r c,s.Z c,hh h c⟩⟩
theorem aHi {i:Nat}{o:Oper} (h:ops[i]? =some o) {K:Act->World->Prop}{Qx:Exit->Act->World->Prop}{a:Act}{w:World}{v:Value}
  (j:(Region.wanted o (yielded ops a.tmps)=true/\aBl P w v ((execOp a.eval o).run P w))\/(Region.wanted o (yielded ops a.tmps)=false/\v=undef)) (b: ∀w',fK w w'->K (a.put o.dst v) w'):wpOp P ops Qx i K a w:=by
 unfold wpOp;simp only [h];rcases j with ⟨c,this⟩|⟨c,rfl⟩
 ·rw [if_pos c];refine .inl ?_;unfold Oper.wp;generalize (execOp a.eval o).run P w=r at this
  cases r with
  |ok n w'=>
   cases n<;>simp only [aBl]at this<;>simp only [Oper.upon]
   case value u=>obtain⟨rfl,rfl⟩:=this;exact b _ (fK.refl _)
   case skip=>obtain⟨rfl,rfl⟩:=this;exact b _ (fK.refl _)
   case enter f args=>
    obtain⟨rfl,l⟩:=this;exact l.mono λ_ _ ⟨p,q⟩=>by subst p;exact b _ q
  |halt _ w'=>simp only [aBl]at this
 ·rw [if_neg (by rw [c];exact Bool.false_ne_true)];exact b _ (fK.refl _)
theorem sees_alloc (w:World)(o:Obj):fK w (w.alloc o):=(Below.refl _ w).alloc (Nat.le_refl _) _
theorem aLh {i:Nat}{K:Mm->Act->World->Prop}{Qx:Exit->Act->World->Prop}{M:Mm}{a:Act}{w:World} (C: ∀i B,kd i= .mk B-> ∀w,I w->B<=w.heap.size) (t: ∀w w',I w->fK w w'->I w') (b:I w) (c:nM M w) (h:xOp P I ops kd i K M a w):wpOp P ops Qx i (λa w=> ∃M,I w/\nM M w/\K M a w) a w:=by
 unfold xOp at h
 cases ho:ops[i]? with
 |none=>simp only [ho]at h
 |some _=>
  simp only [ho]at h
  cases hk:kd i<;>simp only [hk]at h
  ·obtain⟨v,u,s⟩:=h;unfold wpOp;simp only [ho];rcases u with ⟨r,x⟩|⟨r,rfl⟩
   ·rw [if_pos r];refine .inl ?_;unfold Oper.wp;rw [x w b];exact⟨M,b,c,s⟩
   ·rw [if_neg (by rw [r];exact Bool.false_ne_true)];exact⟨M,b,c,s⟩
  ·obtain⟨v,u,s⟩:=h;exact aHi ho (u.imp (λ⟨r,x⟩=>⟨r,x w b⟩) id) λw' j=>⟨M,t _ _ b j,c.Z j,s w' j⟩
  ·obtain⟨v,u,s⟩:=h;exact aHi ho (u.imp (λ⟨r,x⟩=>⟨r,x w (fK.refl w)⟩) id) λw' j=>⟨M,t _ _ b j,c.Z j,s w' j⟩
  ·unfold wpOp;simp only [ho];rcases h with ⟨l,h⟩|⟨l,h⟩
   rotate_left
   ·rw [if_neg (by rw [l];exact Bool.false_ne_true)];exact⟨M,b,c,h _ (fK.refl _)⟩
   rw [if_pos l];refine .inl ?_;unfold Oper.wp;rcases h with ⟨v,w',h1,n,p⟩|⟨f,args,h1,p⟩
   ·rw [h1];exact⟨M,t _ _ b n,c.Z n,p _ (fK.refl _)⟩
   ·rw [h1];exact p.mono λe w' ⟨v,z,n,hk⟩=>by subst z;exact⟨M,t _ _ b n,c.Z n,hk _ (fK.refl _)⟩
  ·unfold wpOp;simp only [ho];rcases h with ⟨l,h⟩|⟨l,h⟩
   rotate_left
   ·rw [if_neg (by rw [l];exact Bool.false_ne_true)];exact⟨M,b,c,h _ (fK.refl _)⟩
   rw [if_pos l];refine .inl ?_;unfold Oper.wp;rcases h with ⟨v,w',h1,n,y,q,p⟩|⟨w',h1,n,y,q,p⟩|⟨f,args,h1,p⟩
   ·rw [h1];exact⟨y,n,q,p _ (fK.refl _)⟩
   ·rw [h1];exact⟨y,n,q,p _ (fK.refl _)⟩
   ·rw [h1];exact p.mono λe w' ⟨v,z,n,y,q,hk⟩=>by subst z;exact⟨y,n,q,hk _ (fK.refl _)⟩
  ·unfold wpOp;simp only [ho];rcases h with ⟨l,_,_,cs,T,rfl,h1,p⟩|⟨l,h⟩
   ·rw [if_pos l];refine .inl ?_;unfold Oper.wp;rw [h1 w b];have j:=sees_alloc w (.cells cs.toArray T);exact⟨_,t _ _ b j,c.mk j (Al.mk' w cs T).blk,p _ _ j (C i _ hk w b) c.new (Al.mk' w cs T).blk⟩
   ·rw [if_neg (by rw [l];exact Bool.false_ne_true)];exact⟨M,b,c,h _ (fK.refl _)⟩

theorem aDb.of_same {o:Oper}{v:Value}{a b:Act}(c:aDb P I ops o v a)(e:execOp b.eval o=execOp a.eval o)
    (f:Region.wanted o (yielded ops b.tmps)=Region.wanted o (yielded ops a.tmps)):aDb P I ops o v b:=by
 unfold aDb at *;rw [e,f];exact c
theorem aLl.of_same {o:Oper}{v:Value}{a b:Act}(c:aLl P I ops o v a)(e:execOp b.eval o=execOp a.eval o)
    (f:Region.wanted o (yielded ops b.tmps)=Region.wanted o (yielded ops a.tmps)):aLl P I ops o v b:=by
 unfold aLl at *;rw [e,f];exact c
def aHz (ops:Array Oper)(kd:Nat->Kd)(i j:Nat):Bool:=
 match ops[i]?,ops[j]? with
 |some a,some b=>a.apart ops b&&b.apart ops a&&((kd i).isPure||(kd j).isPure||(kd i).isFcall||((kd i).isRead&&((kd j).isFcall||(kd j).isRead||(kd j).isNew||(kd j).isMk))||((kd i).isMk&&(kd j).isMk))
 |_,_=>false

theorem xOp_put {i:Nat}{p t:Oper} (hi:ops[i]? =some p) (C:p.apart ops t=true) (D: ∀cs b,p.op≠ .select cs b) {u:Value}
  {K:Mm->Act->World->Prop}{M:Mm}{a:Act}{w:World} (h:xOp P I ops kd i (λM E w'=>K M (E.put t.dst u) w') M a w):xOp P I ops kd i K M (a.put t.dst u) w:=by
 obtain⟨h1,l,n⟩:=Oper.apart_spec C;have s:execOp (a.put t.dst u).eval p=execOp a.eval p:=execOp_put p D a t.dst u n;have x:Region.wanted p (yielded ops (a.put t.dst u).tmps)=Region.wanted p (yielded ops a.tmps):=wanted_put p a t.dst u n;have o: ∀v,(a.put t.dst u).put p.dst v=(a.put p.dst v).put t.dst u:=λv=>(Act.put_comm a v u l).symm
 unfold xOp at *
 simp only [hi]at h⊢
 cases hk:kd i<;>simp only [hk]at h⊢
 ·obtain⟨v,y,z⟩:=h;exact⟨v,y.of_same s x,by rw [o];exact z⟩
 ·obtain⟨v,y,z⟩:=h;exact⟨v,y.of_same s x,λw' j=>by rw [o];exact z w' j⟩
 ·obtain⟨v,y,z⟩:=h;exact⟨v,y.of_same s x,λw' j=>by rw [o];exact z w' j⟩
 ·rw [s,x];rcases h with ⟨q,h⟩|⟨q,h⟩
  rotate_left
  ·exact .inr ⟨q,λc j=>by rw [o];exact h c j⟩
  refine .inl ⟨q,?_⟩;rcases h with ⟨v,w',h1,n,l⟩|⟨f,args,h1,l⟩
  ·exact .inl ⟨v,w',h1,n,λc j=>by rw [o];exact l c j⟩
  ·exact .inr ⟨f,args,h1,l.mono λe w' ⟨v,s,n,hk⟩=>⟨v,s,n,λc j=>by rw [o];exact hk c j⟩⟩
 ·rw [s,x];rcases h with ⟨q,h⟩|⟨q,h⟩
  rotate_left
  ·exact .inr ⟨q,λc j=>by rw [o];exact h c j⟩
  refine .inl ⟨q,?_⟩;rcases h with ⟨v,w',h1,n,B,r,l⟩|⟨w',h1,n,B,r,l⟩|⟨f,args,h1,l⟩
  ·exact .inl ⟨v,w',h1,n,B,r,λc j=>by rw [o];exact l c j⟩
  ·exact .inr (.inl ⟨w',h1,n,B,r,λc j=>by rw [o];exact l c j⟩)
  ·exact .inr (.inr ⟨f,args,h1,l.mono λe w' ⟨v,s,n,B,r,hk⟩=>⟨v,s,n,B,r,λc j=>by rw [o];exact hk c j⟩⟩)
 ·rw [s,x];rcases h with ⟨q,A,m,cs,T,F,h1,l⟩|⟨q,h⟩
  ·exact .inl ⟨q,A,m,cs,T,F,h1,λb c G H J L=>by rw [o];exact l b c G H J L⟩
  ·exact .inr ⟨q,λc j=>by rw [o];exact h c j⟩
theorem aGd {i:Nat}{p t:Oper} (hi:ops[i]? =some p) (C:p.apart ops t=true) (D: ∀cs b,p.op≠ .select cs b) {u:Value}
  {K:Mm->Act->World->Prop}{M:Mm}{a:Act}{w:World} (h:xOp P I ops kd i K M (a.put t.dst u) w):xOp P I ops kd i (λM E w'=>K M (E.put t.dst u) w') M a w:=by
 obtain⟨h1,l,n⟩:=Oper.apart_spec C;have s:execOp (a.put t.dst u).eval p=execOp a.eval p:=execOp_put p D a t.dst u n;have x:Region.wanted p (yielded ops (a.put t.dst u).tmps)=Region.wanted p (yielded ops a.tmps):=wanted_put p a t.dst u n;have o: ∀v,(a.put t.dst u).put p.dst v=(a.put p.dst v).put t.dst u:=λv=>(Act.put_comm a v u l).symm
 unfold xOp at *
 simp only [hi]at h⊢
 cases hk:kd i<;>simp only [hk]at h⊢
 ·obtain⟨v,y,z⟩:=h;exact⟨v,y.of_same s.symm x.symm,by rw [<-o];exact z⟩
 ·obtain⟨v,y,z⟩:=h;exact⟨v,y.of_same s.symm x.symm,λw' j=>by rw [<-o];exact z w' j⟩
 ·obtain⟨v,y,z⟩:=h;exact⟨v,y.of_same s.symm x.symm,λw' j=>by rw [<-o];exact z w' j⟩
 ·rw [s,x]at h;rcases h with ⟨q,h⟩|⟨q,h⟩
  rotate_left
  ·exact .inr ⟨q,λc j=>by rw [<-o];exact h c j⟩
  refine .inl ⟨q,?_⟩;rcases h with ⟨v,w',h1,n,l⟩|⟨f,args,h1,l⟩
  ·exact .inl ⟨v,w',h1,n,λc j=>by rw [<-o];exact l c j⟩
  ·exact .inr ⟨f,args,h1,l.mono λe w' ⟨v,s,n,hk⟩=>⟨v,s,n,λc j=>by rw [<-o];exact hk c j⟩⟩
 ·rw [s,x]at h;rcases h with ⟨q,h⟩|⟨q,h⟩
  rotate_left
  ·exact .inr ⟨q,λc j=>by rw [<-o];exact h c j⟩
  refine .inl ⟨q,?_⟩;rcases h with ⟨v,w',h1,n,B,r,l⟩|⟨w',h1,n,B,r,l⟩|⟨f,args,h1,l⟩
  ·exact .inl ⟨v,w',h1,n,B,r,λc j=>by rw [<-o];exact l c j⟩
  ·exact .inr (.inl ⟨w',h1,n,B,r,λc j=>by rw [<-o];exact l c j⟩)
  ·exact .inr (.inr ⟨f,args,h1,l.mono λe w' ⟨v,s,n,B,r,hk⟩=>⟨v,s,n,B,r,λc j=>by rw [<-o];exact hk c j⟩⟩)
 ·rw [s,x]at h;rcases h with ⟨q,A,m,cs,T,F,h1,l⟩|⟨q,h⟩
  ·exact .inl ⟨q,A,m,cs,T,F,h1,λb c G H J L=>by rw [<-o];exact l b c G H J L⟩
  ·exact .inr ⟨q,λc j=>by rw [<-o];exact h c j⟩

theorem xOp_some {i:Nat}{q:Oper} (hi:ops[i]? =some q) {K:Mm->Act->World->Prop}{M:Mm}{a:Act}{w:World} (s: ∀i B,kd i= .mk B-> ∀w,I w->B<=w.heap.size) (p: ∀w w',I w->fK w w'->I w') (c:I w) (t:nM M w) (h:xOp P I ops kd i K M a w): ∃v w' o,I w'/\K o (a.put q.dst v) w':=by
 unfold xOp at h;simp only [hi]at h
 cases hk:kd i<;>simp only [hk]at h
 ·obtain⟨v,_,l⟩:=h;exact⟨v,w,_,c,l⟩
 ·obtain⟨v,_,l⟩:=h;exact⟨v,w,_,c,l w (fK.refl w)⟩
 ·obtain⟨v,_,l⟩:=h;exact⟨v,w,_,c,l w (fK.refl w)⟩
 ·rcases h with h|⟨_,h⟩
  rotate_left
  ·exact⟨_,w,_,c,h _ (fK.refl _)⟩
  rcases h.2 with ⟨v,w',_,j,b⟩|⟨f,args,_,b⟩
  ·exact⟨v,w',_,p _ _ c j,b _ (fK.refl _)⟩
  ·obtain⟨e,w',u,⟨v,_,j,hk⟩,_⟩:=b [];exact⟨v,w',_,p _ _ c j,hk _ (fK.refl _)⟩
 ·rcases h with h|⟨_,h⟩
  rotate_left
  ·exact⟨_,w,_,c,h _ (fK.refl _)⟩
  rcases h.2 with ⟨v,w',_,j,o,n,b⟩|⟨w',_,j,o,n,b⟩|⟨f,args,_,b⟩
  ·exact⟨v,w',_,j,b _ (fK.refl _)⟩
  ·exact⟨_,w',_,j,b _ (fK.refl _)⟩
  ·obtain⟨e,w',u,⟨v,_,j,o,n,hk⟩,_⟩:=b [];exact⟨v,w',_,j,hk _ (fK.refl _)⟩
 ·rcases h with ⟨_,_,_,cs,T,rfl,h1,b⟩|⟨_,h⟩
  ·have r:=sees_alloc w (.cells cs.toArray T);exact⟨_,_,_,p _ _ c r,b _ _ r (s i _ hk w c) t.new (Al.mk' w cs T).blk⟩
  ·exact⟨_,w,_,c,h _ (fK.refl _)⟩
theorem aPb {j:Nat}{s:Oper} (F:ops[j]? =some s) (t:kd j≠ .pure) {K C:Mm->Act->World->Prop}{M:Mm}{a:Act}{w:World}
  (h:xOp P I ops kd j K M a w) (l: ∀u M x w',(kd j= .fcall\/kd j= .read\/kd j= .new\/(kd j).isMk=true->fK w x)->(∀c,fK x c->K M (a.put s.dst u) c)->fK x w'->C M (a.put s.dst u) w'):xOp P I ops kd j C M a w:=by
 unfold xOp at *
 simp only [F]at h⊢
 cases hk:kd j<;>simp only [hk]at h⊢ <;>simp only [hk]at l
 ·exact absurd hk t
 ·obtain⟨v,y,z⟩:=h;exact⟨v,y,λw' i=>l v _ w w' (λ_=>fK.refl w) z i⟩
 ·obtain⟨v,y,z⟩:=h;exact⟨v,y,λw' i=>l v _ w w' (λ_=>fK.refl w) z i⟩
 ·rcases h with ⟨n,h⟩|⟨n,h⟩
  rotate_left
  ·exact .inr ⟨n,λw' i=>l _ _ w w' (λ_=>fK.refl w) h i⟩
  refine .inl ⟨n,?_⟩;rcases h with ⟨v,w',h1,o,p⟩|⟨f,args,h1,p⟩
  ·exact .inl ⟨v,w',h1,o,λc i=>l v _ w' c (λ_=>o) p i⟩
  ·exact .inr ⟨f,args,h1,p.mono λe w' ⟨v,B,o,hk⟩=>⟨v,B,o,λc i=>l v _ w' c (λ_=>o) hk i⟩⟩
 ·rcases h with ⟨n,h⟩|⟨n,h⟩
  rotate_left
  ·exact .inr ⟨n,λw' i=>l _ _ w w' (λ_=>fK.refl w) h i⟩
  refine .inl ⟨n,?_⟩;rcases h with ⟨v,w',h1,o,r,q,p⟩|⟨w',h1,o,r,q,p⟩|⟨f,args,h1,p⟩
  ·exact .inl ⟨v,w',h1,o,r,q,λc i=>l v _ w' c (λh=>by simp [Kd.isMk]at h) p i⟩
  ·exact .inr (.inl ⟨w',h1,o,r,q,λc i=>l _ _ w' c (λh=>by simp [Kd.isMk]at h) p i⟩)
  ·exact .inr (.inr ⟨f,args,h1,p.mono λe w' ⟨v,B,o,r,q,hk⟩=>⟨v,B,o,r,q,λc i=>l v _ w' c (λh=>by simp [Kd.isMk]at h) hk i⟩⟩)
 ·rcases h with ⟨n,A,m,cs,T,G,h1,p⟩|⟨n,h⟩
  ·exact .inl ⟨n,A,m,cs,T,G,h1,λb c D H J L=>l _ _ c c (λ_=>D) (λO E=>p b O (D.trans E) H J (L.Z E)) (fK.refl _)⟩
  ·exact .inr ⟨n,λw' i=>l _ _ w w' (λ_=>fK.refl w) h i⟩

theorem xSwap {i j:Nat} (hB: ∀i B,kd i= .mk B-> ∀w,I w->B<=w.heap.size) (hm:aHz ops kd i j=true) (hs: ∀(k:Nat) (o:Oper) cs b,ops[k]? =some o->o.op≠ .select cs b) (hI: ∀w w',I w->fK w w'->I w') {K:Mm->Act->World->Prop}{M:Mm}{a:Act}{w:World} (Y:I w) (hM:nM M w)
  (h:xOp P I ops kd i (xOp P I ops kd j K) M a w):xOp P I ops kd j (xOp P I ops kd i K) M a w:=by
 unfold aHz at hm
 cases hi:ops[i]? with
 |none=>simp [hi]at hm
 |some z=>
  cases hj:ops[j]? with
  |none=>simp [hi,hj]at hm
  |some n=>
   simp only [hi,hj,Bool.and_eq_true,Bool.or_eq_true]at hm;obtain⟨⟨aa,A⟩,hk⟩:=hm;have ab:=λcs b=>hs i z cs b hi
   have C:=λcs b=>hs j n cs b hj
   obtain⟨i1,i2,i3⟩:=Oper.apart_spec aa;obtain⟨_,_,j3⟩:=Oper.apart_spec A;have D: ∀{u:Value}{a:Act},execOp (a.put n.dst u).eval z=execOp a.eval z:=execOp_put _ ab _ _ _ i3;have E: ∀{u:Value}{a:Act},Region.wanted z (yielded ops (a.put n.dst u).tmps)=Region.wanted z (yielded ops a.tmps):=wanted_put _ _ _ _ i3;have S: ∀{u:Value}{a:Act},execOp (a.put z.dst u).eval n=execOp a.eval n:=execOp_put _ C _ _ _ j3;have T: ∀{u:Value}{a:Act},Region.wanted n (yielded ops (a.put z.dst u).tmps)=Region.wanted n (yielded ops a.tmps):=wanted_put _ _ _ _ j3;have h0:=h
   by_cases ao:(kd j).isPure=true
   ·have f:kd j= .pure:=by cases h':kd j<;>simp_all [Kd.isPure]
    obtain⟨v0,_,_,_,h1⟩:=xOp_some hi hB hI Y hM h;unfold xOp at h1;simp only [hj,f]at h1;obtain⟨u,F,_⟩:=h1;have ac:aDb P I ops n u a:=F.of_same S.symm T.symm;have hu: ∀{M':Mm}{G:Act}{w':World},Region.wanted n (yielded ops G.tmps)=Region.wanted n (yielded ops a.tmps)->execOp G.eval n=execOp a.eval n->xOp P I ops kd j K M' G w'->K M' (G.put n.dst u) w':=by
     intro M' G w' aq ar l;unfold xOp at l;simp only [hj,f]at l;obtain⟨u',au,av⟩:=l;have:u'=u:=by
      have aw:aDb P I ops n u' a:=au.of_same ar.symm aq.symm;rcases aw with ⟨r,H⟩|⟨r,H⟩<;>rcases ac with ⟨r1,r2⟩|⟨r1,r2⟩
      ·have:=(H w Y).symm.trans (r2 w Y);injection this with this;injection this
      ·rw [r]at r1;cases r1
      ·rw [r]at r1;cases r1
      ·rw [H,r2]
     rw [<-this];exact av
    have J:xOp P I ops kd i (λM G w'=>K M (G.put n.dst u) w') M a w:=aLy (λo M v w' ho l=>by rw [hi]at ho;cases ho;exact hu T S l) h
    conv=>unfold xOp
    simp only [hj,f];exact⟨u,ac,xOp_put hi aa ab J⟩
   have L:kd j≠ .pure:=λe=>ao (by rw [e];rfl)
   by_cases bt:(kd i).isPure=true
   ·have c:kd i= .pure:=by cases h':kd i<;>simp_all [Kd.isPure]
    unfold xOp at h;simp only [hi,c]at h;obtain⟨v,F,hK⟩:=h;refine aPb hj L (aGd hj A C hK) λu M w1 w' _ J X=>?_
    unfold xOp;simp only [hi,c];exact⟨v,F.of_same D E,J w' X⟩
   by_cases bu:(kd i).isFcall=true
   ·have c:kd i= .fcall:=by cases h':kd i<;>simp_all [Kd.isFcall]
    unfold xOp at h;simp only [hi,c]at h;obtain⟨v,F,hK⟩:=h;refine aPb hj L (aGd hj A C (hK w (fK.refl w))) λu M w1 w' _ J X=>?_
    unfold xOp;simp only [hi,c];exact⟨v,F.of_same D E,λp h4=>J p (X.trans h4)⟩
   by_cases bv:(kd i).isMk=true
   ·have bw:(kd j).isMk=true:=by cases h':kd i<;>cases h'':kd j<;>simp_all [Kd.isPure,Kd.isFcall,Kd.isRead,Kd.isNew,Kd.isMk]
    obtain⟨_,c⟩: ∃B,kd i= .mk B:=by cases h':kd i<;>simp_all [Kd.isMk]
    obtain⟨_,f⟩: ∃B,kd j= .mk B:=by cases h':kd j<;>simp_all [Kd.isMk]
    have hc: ∀v u,(a.put n.dst u).put z.dst v=(a.put z.dst v).put n.dst u:=λv u=>(Act.put_comm a v u i2).symm
    unfold xOp at h;simp only [hi,c]at h;unfold xOp;simp only [hj,f];rcases h with ⟨s,Ai,mi,ci,Ti,rfl,ri,Ki⟩|⟨s,Ki⟩
    ·have az:=sees_alloc w (.cells ci.toArray Ti);have l:=Ki _ _ az (hB i _ c w Y) hM.new (Al.mk' w ci Ti).blk;unfold xOp at l;simp only [hj,f,T,S]at l;rcases l with ⟨m,Aj,mj,cj,Tj,_,rj,_⟩|⟨m,_⟩
     ·refine .inl ⟨m,Ai,mj,cj,Tj,rfl,rj,λb O r H q0 q3=>?_⟩;simp only [hi,c,E,D];refine .inl ⟨s,_,mi,ci,Ti,rfl,ri,λb' p y q5 q7 q6=>?_⟩;have l:=Ki b' p (r.trans y) q5 (λh=>q7 (.inr h)) q6;unfold xOp at l;simp only [hj,f,T,S]at l;rcases l with ⟨_,_,_,_,_,bd,be,R⟩|⟨t,_⟩
      ·have ai:=hI _ _ Y (r.trans y);have e:=(be p ai).symm.trans (rj p ai)
       injection e with e1 e2
       injection e1 with e1
       obtain rfl:=Mk.inj e1;obtain⟨rfl,rfl⟩:=alloc_inj e2
       cases bd
       rw [hc];have hk:=R b p (fK.refl p) H (λh=>h.elim (λh=>q7 (.inl h.symm)) q0) (q3.Z y);have hE:(λx=>x=b\/x=b'\/Ai x)=(λx=>x=b'\/x=b\/Ai x):=funext λx=>propext ⟨λh=>h.elim (λh=> .inr (.inl h)) λh=>h.elim .inl λh=> .inr (.inr h),λh=>h.elim (λh=> .inr (.inl h)) λh=>h.elim .inl λh=> .inr (.inr h)⟩
       rw [hE]at hk;exact hk
      ·rw [m]at t;cases t
     ·refine .inr ⟨m,λO r=>?_⟩;simp only [hi,c,E,D];refine .inl ⟨s,Ai,mi,ci,Ti,rfl,ri,λb' p y q5 q7 q6=>?_⟩;have l:=Ki b' p (r.trans y) q5 q7 q6;unfold xOp at l;simp only [hj,f,T,S]at l;rcases l with ⟨t,_⟩|⟨_,R⟩
      ·rw [m]at t;cases t
      ·rw [hc];exact R p (fK.refl p)
    ·have l:=Ki w (fK.refl w);unfold xOp at l;simp only [hj,f,T,S]at l;rcases l with ⟨m,Aj,mj,cj,Tj,rfl,rj,R⟩|⟨m,R⟩
     ·refine .inl ⟨m,Aj,mj,cj,Tj,rfl,rj,λb O r H q0 q3=>?_⟩;simp only [hi,c,E,D];exact .inr ⟨s,λp y=>by rw [hc];exact R b p (r.trans y) H q0 (q3.Z y)⟩
     ·refine .inr ⟨m,λO r=>?_⟩;simp only [hi,c,E,D];exact .inr ⟨s,λp y=>by rw [hc];exact R p (r.trans y)⟩
   have c:kd i= .read:=by cases h':kd i<;>simp_all [Kd.isPure,Kd.isFcall,Kd.isRead,Kd.isNew,Kd.isMk]
   have f:kd j= .fcall\/kd j= .read\/kd j= .new\/(kd j).isMk=true:=by cases h':kd j<;>simp_all [Kd.isPure,Kd.isFcall,Kd.isRead,Kd.isNew,Kd.isMk]
   unfold xOp at h;simp only [hi,c]at h;obtain⟨v,F,hK⟩:=h;refine aPb hj L (aGd hj A C (hK w (fK.refl w))) λu M w1 w' q J X=>?_
   unfold xOp;simp only [hi,c];exact⟨v,(F.Z ((q f).trans X)).of_same D E,λp h4=>J p (X.trans h4)⟩

theorem aGe (e: ∀i B,kd i= .mk B-> ∀w,I w->B<=w.heap.size)(f: ∀(k:Nat) (o:Oper) cs b,ops[k]? =some o->o.op≠ .select cs b)(c: ∀w w',I w->fK w w'->I w')(i:Nat)(post:List Nat): ∀(pre:List Nat) (M:Mm) (a:Act) (w:World),I w->nM M w->(∀p∈pre,aHz ops kd p i=true)->
  aB P I ops kd Q (pre++i::post) M a w->aB P I ops kd Q (i::(pre++post)) M a w
 | [],_,_,_,_,_,_,h=>h
 |p::pre,M,a,w,j,l,hm,h=>by
  have h1:xOp P I ops kd p (λM a w=>I w/\nM M w/\aB P I ops kd Q (pre++i::post) M a w) M a w:=aYy c j l h;have m:xOp P I ops kd p (aB P I ops kd Q (i::(pre++post))) M a w:=aJv (λM a w h=>aGe e f c i post pre M a w h.1 h.2.1 (λq n=>hm q (List.mem_cons_of_mem _ n)) h.2.2) h1;exact xSwap e (hm p List.mem_cons_self) f c j l m

def waits (md:Region.Mode)(ops:Array Oper)(q p:Nat):Bool:=((ops[q]?).map λo=>o.after.toList.any λe=>Region.binds md e&&e.on==p).getD false
def aYv (md:Region.Mode)(ops:Array Oper)(q:Nat):Nat:=((ops[q]?).map λo=>o.after.toList.foldl (λa e=>if Region.binds md e=true then a|||1<<<e.on else a) 0).getD 0
def wclo (md:Region.Mode)(ops:Array Oper):Nat->Nat->Nat
 |0,a=>a
 |n+1,a=>wclo md ops n (if a.testBit n=true then a|||aYv md ops n else a)
def aBn (md:Region.Mode)(ops:Array Oper)(_ q p:Nat):Bool:=(wclo md ops q (aYv md ops q)).testBit p
def Dn (md:Region.Mode)(ops:Array Oper)(a:Array Bool):Prop:= ∀q p,a.getD q false=true->waits md ops q p=true->a.getD p true=true
theorem aHf {md:Region.Mode}{ops:Array Oper}{q p:Nat} (h:(aYv md ops q).testBit p=true):waits md ops q p=true:=by
 unfold aYv at h;unfold waits
 cases ho:ops[q]? with
 |none=>rw [ho]at h;simp at h
 |some _=>
  rw [ho]at h;simp only [Option.map_some,Option.getD_some]at h⊢;have b: ∀(l:List Edge) (a:Nat),(l.foldl (λa e=>if Region.binds md e=true then a|||1<<<e.on else a) a).testBit p=true->a.testBit p=true\/(l.any λe=>Region.binds md e&&e.on==p)=true:=by
   intro l
   induction l with
   |nil=>intro a h;exact .inl h
   |cons e l c=>
    intro a h;rw [List.foldl_cons]at h;rw [List.any_cons,Bool.or_eq_true];rcases c _ h with h1|h1
    ·split at h1
     ·rename_i f;rw [Nat.testBit_or,Bool.or_eq_true]at h1;rcases h1 with h1|h1
      ·exact .inl h1
      ·refine .inr (.inl ?_);rw [Nat.one_shiftLeft,Nat.testBit_two_pow]at h1;rw [f,Bool.true_and,beq_iff_eq];exact of_decide_eq_true h1
     ·exact .inl h1
    ·exact .inr (.inr h1)
  rcases b _ _ h with h1|h1
  ·simp at h1
  ·exact h1
theorem waits_lt {md:Region.Mode}{ops:Array Oper}{q p:Nat}(h:waits md ops q p=true):q<ops.size:=by
 unfold waits at h
 cases ho:ops[q]? with
 |none=>rw [ho]at h;simp at h
 |some _=>exact(Array.getElem?_eq_some_iff.1 ho).1
def Wt (md:Region.Mode)(ops:Array Oper)(q p:Nat):Prop:= ∀a:Array Bool,a.size=ops.size->Dn md ops a->a.getD q false=true->a.getD p true=true
theorem aHc {md:Region.Mode}{ops:Array Oper}{n q p:Nat} (h:aBn md ops n q p=true):waits md ops q p=true\/ ∃m,m<ops.size/\waits md ops q m=true/\Wt md ops m p:=by
 have lt: ∀{b:Array Bool}{m:Nat},b.size=ops.size->m<ops.size->b.getD m true=true->b.getD m false=true:=by
  intro b m e hm l;rw [Array.getD_eq_getD_getElem?,Array.getElem?_eq_getElem (by rw [e];exact hm)]at l⊢;simpa using l
 have o: ∀(k a:Nat),(∀p,a.testBit p=true->waits md ops q p=true\/ ∃m,m<ops.size/\waits md ops q m=true/\Wt md ops m p)-> ∀p,(wclo md ops k a).testBit p=true->waits md ops q p=true\/ ∃m,m<ops.size/\waits md ops q m=true/\Wt md ops m p:=by
  intro k
  induction k with
  |zero=>intro a f;exact f
  |succ k u=>
   intro a f p t;rw [wclo]at t;refine u _ (λi c=>?_) p t;split at c
   ·rename_i hk;rw [Nat.testBit_or,Bool.or_eq_true]at c;rcases c with c|c
    ·exact f i c
    ·have r:=aHf c;have j:=waits_lt r;rcases f k hk with h1|⟨m,h1,x,l⟩
     ·exact .inr ⟨k,j,h1,λb e hd s=>hd k i s r⟩
     ·exact .inr ⟨m,h1,x,λb e hd s=>hd k i (lt e j (l b e hd s)) r⟩
   ·exact f i c
 exact o q _ (λi c=> .inl (aHf c)) p h
def pairB (md:Region.Mode)(ops:Array Oper)(kd:Nat->Kd):List Nat->Bool
 | []=>true
 |p::l=>(l.all λq=> !waits md ops p q&&(aBn md ops 5 q p||aHz ops kd p q))&&pairB md ops kd l
def edgesB (md:Region.Mode)(ops:Array Oper):Bool:=
 (List.range ops.size).all λi=>((ops[i]?).map λo=>o.after.all λe=> !Region.binds md e||(decide (e.on<ops.size)&&e.on !=i)).getD true

theorem rD {md:Region.Mode} (i:Nat) (post:List Nat): ∀(pre:List Nat),pairB md ops kd (pre++i::post)=true->
  pairB md ops kd (pre++post)=true/\ ∀p∈pre,aBn md ops 5 i p=true\/aHz ops kd p i=true
 | [],h=>by
  simp only [List.nil_append,pairB,Bool.and_eq_true]at h;exact⟨h.2,by simp⟩
 |p::pre,h=>by
  simp only [List.cons_append,pairB,Bool.and_eq_true]at h;obtain⟨h1,b⟩:=h;obtain⟨c,e⟩:=rD i post pre b;rw [List.all_eq_true]at h1;refine⟨?_,?_⟩
  ·simp only [List.cons_append,pairB,Bool.and_eq_true];refine⟨List.all_eq_true.2 λq a=>h1 q ?_,c⟩;rcases mA.1 a with h|h
   ·exact List.mem_append_left _ h
   ·exact List.mem_append_right _ (List.mem_cons_of_mem _ h)
  ·intro q a;rcases List.mem_cons.1 a with rfl|a
   ·have:=h1 i (List.mem_append_right _ List.mem_cons_self);simp only [Bool.and_eq_true,Bool.or_eq_true]at this;exact this.2
   ·exact e q a

theorem aCz {md:Region.Mode}{Qx:Exit->Act->World->Prop} (hB: ∀i B,kd i= .mk B-> ∀w,I w->B<=w.heap.size) (hs: ∀(k:Nat) (o:Oper) cs b,ops[k]? =some o->o.op≠ .select cs b) (hI: ∀w w',I w->fK w w'->I w') (aa:edgesB md ops=true) (hQ: ∀M a w,Q M a w->Qx .normal a w):
  ∀(r:Nat) (c:Array Bool) (l:List Nat) (M:Mm) (a:Act) (w:World),c.size=ops.size->l.Nodup->(∀i,i∈l↔i<ops.size/\c.getD i true=false)->pairB md ops kd l=true->l.length<=r->I w->nM M w->Dn md ops c->
   aB P I ops kd Q l M a w->wpAny P md ops Qx r c a w:=by
 have u: ∀{c:Array Bool}{i:Nat},c.size=ops.size->i∈Region.ready md ops c->i<ops.size/\c.getD i true=false:=by
  intro c i f hi;obtain⟨h0,o,J,_⟩:=mem_ready.1 hi;exact⟨(Array.getElem?_eq_some_iff.1 J).1,h0⟩
 intro r
 induction r with
 |zero=>
  intro c l M a w f _ F _ D _ _ _ h;have:l=[]:=List.eq_nil_of_length_eq_zero (by omega);subst this;refine⟨?_,hQ _ _ _ h⟩;apply List.eq_nil_iff_forall_not_mem.2;intro i hi;have:=(F i).2 (u f hi);simp at this
 |succ r ih=>
  intro c l M a w f ab F hp D L hM O h;refine⟨λhr=>?_,λi hi=>?_⟩
  ·cases l with
   |nil=>exact hQ _ _ _ h
   |cons p l=>
    exfalso;have j:=(F p).1 List.mem_cons_self;have:p∈Region.ready md ops c:=by
     refine mem_ready.2 ⟨j.2,ops[p],Array.getElem?_eq_getElem j.1,λe A t=>?_⟩;have n:=(List.all_eq_true.1 aa) p (List.mem_range.2 j.1);rw [Array.getElem?_eq_getElem j.1]at n;simp only [Option.map_some,Option.getD_some]at n;have n:=Array.all_eq_true_iff_forall_mem.1 n e A;rw [t]at n;simp only [Bool.not_true,Bool.false_or,Bool.and_eq_true,decide_eq_true_eq,bne_iff_ne,ne_eq]at n;obtain⟨h1,R⟩:=n;have s:e.on<c.size:=by rw [f];exact h1
     cases hc:c.getD e.on true with
     |true=>
      rw [Array.getD_eq_getD_getElem?,Array.getElem?_eq_getElem s]at hc⊢;simpa using hc
     |false=>
      exfalso;have hm:=(F e.on).2 ⟨h1,hc⟩;rcases List.mem_cons.1 hm with hm|hm
      ·exact R hm
      ·simp only [pairB,Bool.and_eq_true]at hp;have:=List.all_eq_true.1 hp.1 e.on hm;simp only [Bool.and_eq_true,Bool.not_eq_true']at this;have G:waits md ops p e.on=true:=by
        unfold waits;rw [Array.getElem?_eq_getElem j.1];simp only [Option.map_some,Option.getD_some];exact List.any_eq_true.2 ⟨e,Array.mem_toList_iff.2 A,by simp [t]⟩
       rw [G]at this;exact Bool.noConfusion this.1
    rw [hr]at this
    cases this
  ·have j:=(F i).2 (u f hi);obtain⟨pre,post,rfl⟩:=List.append_of_mem j;obtain⟨ad,ae⟩:=rD i post pre hp;have S: ∀p∈pre,aHz ops kd p i=true:=by
    intro p T;rcases ae p T with G|hm
    ·exfalso;have ag:=((F p).1 (List.mem_append_left _ T));have X: ∀m,waits md ops i m=true->c.getD m true=true:=by
      intro m C;obtain⟨_,o,J,x⟩:=mem_ready.1 hi;unfold waits at C;rw [J]at C;simp only [Option.map_some,Option.getD_some]at C;obtain⟨e,A,t⟩:=List.any_eq_true.1 C
      replace A:=Array.mem_toList_iff.1 A
      simp only [Bool.and_eq_true,beq_iff_eq]at t;have h1:=x e A t.1;rw [t.2]at h1
      by_cases H:m<c.size
      ·rw [Array.getD_eq_getD_getElem?,Array.getElem?_eq_getElem H]at h1⊢;simpa using h1
      ·rw [Array.getD_eq_getD_getElem?,Array.getElem?_eq_none (by omega)];rfl
     have:c.getD p true=true:=by
      replace G:=aHc G
      rcases G with G|⟨m,hm,h1,R⟩
      ·exact X p G
      ·have h3:=X m h1;have h4:c.getD m false=true:=by
        rw [Array.getD_eq_getD_getElem?,Array.getElem?_eq_getElem (by rw [f];exact hm)]at h3⊢;simpa using h3
       exact R _ f O h4
     rw [ag.2]at this;cases this
    ·exact hm
   have hx:=aGe hB hs hI i post pre M a w L hM S h;have hx:=aLh (Qx:=Qx) hB hI L hM hx;refine wpOp_mono (λa w ⟨M,h⟩=>?_) hx;have E:(pre++post).Nodup/\i∉pre++post:=by
    have:=ab;rw [List.nodup_append]at this;obtain⟨n1,n2,n3⟩:=this;rw [List.nodup_cons]at n2;refine⟨List.nodup_append.2 ⟨n1,n2.2,λa ha b t=>n3 a ha b (List.mem_cons_of_mem _ t)⟩,λhm=>?_⟩;rcases mA.1 hm with hm|hm
    ·exact n3 i hm i List.mem_cons_self rfl
    ·exact n2.1 hm
   refine ih _ (pre++post) M a w (by simpa using f) E.1 (λk=>?_) ad (by simp at D⊢;omega) h.1 h.2.1 ?_ h.2.2
   rotate_left
   ·intro q p hq y
    by_cases Y:q=i
    ·subst Y;obtain⟨_,o,J,x⟩:=mem_ready.1 hi;unfold waits at y;rw [J]at y;simp only [Option.map_some,Option.getD_some]at y;obtain⟨e,A,t⟩:=List.any_eq_true.1 y
     replace A:=Array.mem_toList_iff.1 A
     simp only [Bool.and_eq_true,beq_iff_eq]at t;have h1:=x e A t.1;rw [t.2]at h1
     by_cases z:p=q
     ·subst z;have s:p<c.size:=by rw [f];exact(u f hi).1
      simp [Array.getD_eq_getD_getElem?,s]
     ·rw [getD_set_ne true (Ne.symm z)]
      by_cases H:p<c.size
      ·rw [Array.getD_eq_getD_getElem?,Array.getElem?_eq_getElem H]at h1⊢;simpa using h1
      ·rw [Array.getD_eq_getD_getElem?,Array.getElem?_eq_none (by omega)];rfl
    ·rw [getD_set_ne false (Ne.symm Y)]at hq;have h1:=O q p hq y
     by_cases z:p=i
     ·subst z;have s:p<c.size:=by rw [f];exact(u f hi).1
      simp [Array.getD_eq_getD_getElem?,s]
     ·rw [getD_set_ne true (Ne.symm z)];exact h1
   by_cases hk:k=i
   ·subst hk;have s:k<c.size:=by rw [f];exact(u f hi).1
    constructor
    ·intro hm;exact absurd hm E.2
    ·rintro⟨_,R⟩;simp [Array.getD_eq_getD_getElem?,s]at R
   ·rw [getD_set_ne true (Ne.symm hk),<-F k];simp [hk]

theorem aDg {md:Region.Mode}{a:Array Bool}{p:Nat}{l:List Nat}(h:a.size=ops.size)(j:edgesB md ops=true)(n: ∀i,i∈p::l↔i<ops.size/\a.getD i true=false)(s: ∀q∈l,waits md ops p q=false):p∈Region.ready md ops a:=by
 have c:=(n p).1 List.mem_cons_self;refine mem_ready.2 ⟨c.2,ops[p],Array.getElem?_eq_getElem c.1,λe o r=>?_⟩;have b:=(List.all_eq_true.1 j) p (List.mem_range.2 c.1);rw [Array.getElem?_eq_getElem c.1]at b;simp only [Option.map_some,Option.getD_some]at b;have b:=Array.all_eq_true_iff_forall_mem.1 b e o;rw [r]at b;simp only [Bool.not_true,Bool.false_or,Bool.and_eq_true,decide_eq_true_eq,bne_iff_ne,ne_eq]at b;obtain⟨h1,t⟩:=b;have m:e.on<a.size:=by rw [h];exact h1
 cases hc:a.getD e.on true with
 |true=>
  rw [Array.getD_eq_getD_getElem?,Array.getElem?_eq_getElem m]at hc⊢;simpa using hc
 |false=>
  exfalso;have hm:=(n e.on).2 ⟨h1,hc⟩;rcases List.mem_cons.1 hm with hm|hm
  ·exact t hm
  ·have f:waits md ops p e.on=true:=by
    unfold waits;rw [Array.getElem?_eq_getElem c.1];simp only [Option.map_some,Option.getD_some];exact List.any_eq_true.2 ⟨e,Array.mem_toList_iff.2 o,by simp [r]⟩
   rw [s e.on hm]at f;cases f
theorem aGr {md:Region.Mode}{a:Array Bool}{i m:Nat} (hi:i∈Region.ready md ops a) (b:waits md ops i m=true):a.getD m true=true:=by
 obtain⟨_,_,l,c⟩:=mem_ready.1 hi;unfold waits at b;rw [l]at b;simp only [Option.map_some,Option.getD_some]at b;obtain⟨e,f,h⟩:=List.any_eq_true.1 b
 replace f:=Array.mem_toList_iff.1 f
 simp only [Bool.and_eq_true,beq_iff_eq]at h;have h1:=c e f h.1;rw [h.2]at h1
 by_cases j:m<a.size
 ·rw [Array.getD_eq_getD_getElem?,Array.getElem?_eq_getElem j]at h1⊢;simpa using h1
 ·rw [Array.getD_eq_getD_getElem?,Array.getElem?_eq_none (by omega)];rfl
theorem jW {md:Region.Mode}{a:Array Bool}{i p:Nat} (b:a.size=ops.size) (e:Dn md ops a) (hi:i∈Region.ready md ops a) (c:aBn md ops 5 i p=true):a.getD p true=true:=by
 replace c:=aHc c
 rcases c with c|⟨m,hm,h1,h⟩
 ·exact aGr hi c
 ·have f:=aGr hi h1;have j:a.getD m false=true:=by
   rw [Array.getD_eq_getD_getElem?,Array.getElem?_eq_getElem (by rw [b];exact hm)]at f⊢;simpa using f
  exact h _ b e j
theorem aPp {md:Region.Mode}{a:Array Bool}{i:Nat} (e:a.size=ops.size) (f:i<ops.size) (l:Dn md ops a) (hi:i∈Region.ready md ops a):Dn md ops (a.setIfInBounds i true):=by
 intro q p m h;by_cases j:q=i;subst j;have h1:=aGr hi h;by_cases b:p=q;subst b;have c:p<a.size:=by rw [e];exact f
 simp [Array.getD_eq_getD_getElem?,c];rw [getD_set_ne true (Ne.symm b)];exact h1;rw [getD_set_ne false (Ne.symm j)]at m;have h1:=l q p m h;by_cases b:p=i;subst b;have c:p<a.size:=by rw [e];exact f
 simp [Array.getD_eq_getD_getElem?,c];rw [getD_set_ne true (Ne.symm b)];exact h1
theorem aFe {c:Array Bool}{i:Nat}{pre post:List Nat} (h:c.size=ops.size) (j:i<ops.size) (f:(pre++i::post).Nodup) (o: ∀k,k∈pre++i::post↔k<ops.size/\c.getD k true=false):
  (pre++post).Nodup/\ ∀k,k∈pre++post↔k<ops.size/\(c.setIfInBounds i true).getD k true=false:=by
 have e:(pre++post).Nodup/\i∉pre++post:=by
  rw [List.nodup_append]at f;obtain⟨p,l,n⟩:=f;rw [List.nodup_cons]at l;refine⟨List.nodup_append.2 ⟨p,l.2,λa q b r=>n a q b (List.mem_cons_of_mem _ r)⟩,λhm=>?_⟩;rcases mA.1 hm with hm|hm
  ·exact n i hm i List.mem_cons_self rfl
  ·exact l.1 hm
 refine⟨e.1,λk=>?_⟩
 by_cases hk:k=i
 ·subst hk;have m:k<c.size:=by rw [h];exact j
  constructor
  ·intro hm;exact absurd hm e.2
  ·rintro⟨_,s⟩;simp [Array.getD_eq_getD_getElem?,m]at s
 ·rw [getD_set_ne true (Ne.symm hk),<-o k];simp [hk]
theorem uY (Q:Mm->Act->World->Prop)(l2:List Nat): ∀(l1:List Nat) (M:Mm) (a:Act) (w:World),aB P I ops kd Q (l1++l2) M a w=aB P I ops kd (λM a w=>aB P I ops kd Q l2 M a w) l1 M a w
 | [],_,_,_=>rfl
 |i::l1,M,a,w=>by
  have e:aB P I ops kd Q (l1++l2)=aB P I ops kd (λM a w=>aB P I ops kd Q l2 M a w) l1:=by
   funext M a w;exact uY Q l2 l1 M a w
  show xOp P I ops kd i (aB P I ops kd Q (l1++l2)) M a w=_;rw [e];rfl
theorem pJ {Q':Mm->Act->World->Prop}(h: ∀M a w,Q M a w->Q' M a w): ∀(l:List Nat) (M:Mm) (a:Act) (w:World),aB P I ops kd Q l M a w->aB P I ops kd Q' l M a w
 | [],_,_,_,hh=>h _ _ _ hh
 |_::l,_,_,_,hh=>aJv (λM a w b=>pJ h l M a w b) hh
theorem aSq (c: ∀w w',I w->fK w w'->I w'): ∀(l:List Nat) (M:Mm) (a:Act) (w:World),I w->nM M w->aB P I ops kd Q l M a w->aB P I ops kd (λM a w=>I w/\Q M a w) l M a w
 | [],_,_,_,b,_,h=>⟨b,h⟩
 |i::l,M,a,w,b,e,h=>by
  have h1:xOp P I ops kd i (λM a w=>I w/\nM M w/\aB P I ops kd Q l M a w) M a w:=aYy c b e h;exact aJv (λM a w h=>aSq c l M a w h.1 h.2.1 h.2.2) h1
def mvB (ops:Array Oper)(kd:Nat->Kd)(p:Nat):Bool:=match ops[p]? with
 |some o=>(kd p).isPure&&(match o.op with | .move _=>true| .assign _=>true| .extract _ _=>true|_=>false)
 |none=>false
theorem aDb.mv {I0 : World -> Prop} {p : Nat} {o : Oper} {v : Value} {a : Act} {w : World} (ho : ops[p]? = some o) (hm : mvB ops kd p = true) (hw : I w) (h : aDb P I ops o v a) : aDb P I0 ops o v a := by
  refine h.imp (λ ⟨h1, h2⟩ => ⟨h1, λ_ _ => ?_⟩) id;have q := h2 w hw;unfold mvB at hm;rw [ho] at hm;simp only [Bool.and_eq_true] at hm;have hm := hm.2
  cases hop : o.op <;> rw [hop] at hm <;> simp only [Bool.false_eq_true] at hm
  all_goals
    unfold execOp at q ⊢;rw [hop] at q ⊢;simp at q ⊢
    first
      | exact q
      | (unfold Instr.extract at q ⊢
         split at q
         · split at q
           · simp_all
           · simp_all [stuck]
         · simp_all)
def forkB (md:Region.Mode)(ops:Array Oper)(kd:Nat->Kd)(pre:List Nat)(u v:Nat)(post:List Nat):Bool:=
 pairB md ops kd (pre++u::post)&&pairB md ops kd (pre++v::post)&& !waits md ops u v&& !waits md ops v u&&(post.all λq=>aBn md ops 5 q u||aBn md ops 5 q v)&& !(mvB ops kd u&&mvB ops kd v)
theorem aFn {md:Region.Mode}(i:Nat)(post pre:List Nat)(h:pairB md ops kd (pre++i::post)=true):pairB md ops kd (pre++post)=true:=(rD i post pre h).1
theorem pG {md:Region.Mode}{p q:Nat}: ∀{l1 l2:List Nat},pairB md ops kd (l1++p::l2)=true->q∈l2->waits md ops p q=false
 | [],l2,h,a=>by
  simp only [List.nil_append,pairB,Bool.and_eq_true]at h;have:=List.all_eq_true.1 h.1 q a;simp only [Bool.and_eq_true,Bool.not_eq_true']at this;exact this.1
 |x::l1,l2,h,a=>by
  simp only [List.cons_append,pairB,Bool.and_eq_true]at h;exact pG h.2 a
theorem forkB_del {md:Region.Mode}{i u v:Nat}{a b post:List Nat}(h:forkB md ops kd (a++i::b) u v post=true):forkB md ops kd (a++b) u v post=true:=by
 unfold forkB at *;simp only [Bool.and_eq_true]at h⊢;obtain⟨⟨⟨⟨⟨h1,c⟩,e⟩,f⟩,j⟩,l⟩:=h;rw [List.append_assoc,List.cons_append]at h1 c;refine⟨⟨⟨⟨⟨?_,?_⟩,e⟩,f⟩,j⟩,l⟩;rw [List.append_assoc];exact aFn i _ a h1;rw [List.append_assoc];exact aFn i _ a c
def barB (md:Region.Mode)(ops:Array Oper)(kd:Nat->Kd)(l l2:List Nat):Bool:=l.all λp=>l2.all λq=> !waits md ops p q&&(aBn md ops 5 q p||(mvB ops kd p&&aHz ops kd p q))
theorem wJ {md:Region.Mode}{l l2:List Nat}(h:barB md ops kd l l2=true){p q:Nat}(a:p∈l)(b:q∈l2):(aBn md ops 5 q p=true\/mvB ops kd p=true/\aHz ops kd p q=true)/\waits md ops p q=false:=by
 have:=List.all_eq_true.1 (List.all_eq_true.1 h p a) q b;simp only [Bool.and_eq_true,Bool.or_eq_true,Bool.not_eq_true']at this;exact⟨this.2,this.1⟩
theorem aBo {md:Region.Mode}{l l' l2:List Nat}(h:barB md ops kd l l2=true)(a: ∀x∈l',x∈l):barB md ops kd l' l2=true:=List.all_eq_true.2 λx b=>List.all_eq_true.1 h x (a x b)
theorem aMy {md:Region.Mode}{l2:List Nat} (b:pairB md ops kd l2=true): ∀{l:List Nat},pairB md ops kd l=true->barB md ops kd l l2=true->pairB md ops kd (l++l2)=true
 | [],_,_=>b
 |p::l,h,c=>by
  simp only [pairB,Bool.and_eq_true]at h;rw [List.cons_append];simp only [pairB,Bool.and_eq_true];refine⟨List.all_eq_true.2 λq a=>?_,aMy b h.2 (aBo c λx e=>List.mem_cons_of_mem _ e)⟩;rcases mA.1 a with a|a
  ·exact List.all_eq_true.1 h.1 q a
  ·obtain⟨f,i⟩:=wJ c List.mem_cons_self a;rw [i];simp only [Bool.not_false,Bool.true_and,Bool.or_eq_true];exact f.imp id And.right
theorem aRg {I0:World->Prop}{c:Mm->Act->World->Prop}{l2:List Nat}: ∀(l:List Nat) {M:Mm}{a:Act}{w:World},(∀p∈l,mvB ops kd p=true)->I w->aB P I ops kd (λ_ a w=>I0 w/\aB P I0 ops kd c l2 none a w) l M a w->I0 w/\aB P I0 ops kd c (l++l2) none a w
 | [],_,_,_,_,_,h=>h
 |p::l,M,a,w,e,f,h=>by
  have hm:=e p List.mem_cons_self;have b:=hm;change xOp P I ops kd p _ M a w at h;unfold xOp at h
  cases ho:ops[p]? with
  |none=>rw [ho]at h;exact h.elim
  |some _=>
   have hk:kd p= .pure:=by
    unfold mvB at b;rw [ho]at b;simp only [Bool.and_eq_true]at b
    cases h':kd p<;>simp_all [Kd.isPure]
   simp only [ho,hk]at h;obtain⟨v,h1,i⟩:=h;obtain⟨j,m⟩:=aRg l (λx n=>e x (List.mem_cons_of_mem _ n)) f i;refine⟨j,?_⟩;rw [List.cons_append];show xOp P I0 ops kd p _ none a w;unfold xOp;simp only [ho,hk];exact⟨v,h1.mv ho hm f,m⟩
theorem aLw {md:Region.Mode}{Qx:Exit->Act->World->Prop} (T: ∀i B,kd i= .mk B-> ∀w,I w->B<=w.heap.size) (Y: ∀(k:Nat) (o:Oper) cs b,ops[k]? =some o->o.op≠ .select cs b) (X: ∀w w',I w->fK w w'->I w') (R:edgesB md ops=true) (l2:List Nat)
  (y: ∀(e:Nat) (c:Array Bool) (l:List Nat) (M:Mm) (a:Act) (w:World),(∀p∈l,mvB ops kd p=true)->c.size=ops.size->(l++l2).Nodup->(∀i,i∈l++l2↔i<ops.size/\c.getD i true=false)->pairB md ops kd l=true->barB md ops kd l l2=true->(l++l2).length<=e->I w->nM M w->Dn md ops c->aB P I ops kd Q l M a w->wpAny P md ops Qx e c a w):
  ∀(e:Nat) (c:Array Bool) (l:List Nat) (M:Mm) (a:Act) (w:World),c.size=ops.size->(l++l2).Nodup->(∀i,i∈l++l2↔i<ops.size/\c.getD i true=false)->pairB md ops kd l=true->barB md ops kd l l2=true->(l++l2).length<=e->I w->nM M w->Dn md ops c->
   aB P I ops kd Q l M a w->wpAny P md ops Qx e c a w:=by
 have C: ∀{c:Array Bool}{i:Nat},c.size=ops.size->i∈Region.ready md ops c->i<ops.size/\c.getD i true=false:=by
  intro c i f hi;obtain⟨A,o,ho,_⟩:=mem_ready.1 hi;exact⟨(Array.getElem?_eq_some_iff.1 ho).1,A⟩
 intro e
 induction e with
 |zero=>
  intro c l M a w f m t _ _ j r D n h;have A:l=[]:=List.eq_nil_of_length_eq_zero (by rw [List.length_append]at j;omega);subst A;exact y 0 c [] M a w (by simp) f m t rfl rfl j r D n h
 |succ e ih=>
  intro c l M a w f m t z E j r D n h
  by_cases s: ∀p∈l,mvB ops kd p=true
  ·exact y _ c l M a w s f m t z E j r D n h
  cases l with
  |nil=>exact absurd (by simp) s
  |cons p0 l0=>
   refine⟨λhr=>?_,λi hi=>?_⟩
   ·exfalso;have:=aDg (p:=p0) (l:=l0++l2) f R t (λq F=>by
     rcases mA.1 F with F|F
     ·exact pG (l1:=[]) z F
     ·exact(wJ E List.mem_cons_self F).2)
    rw [hr]at this;cases this
   ·have G:=(C f hi).1;have H:=(t i).2 (C f hi);rcases mA.1 H with hm|hm
    ·obtain⟨J,S,he⟩:=List.append_of_mem hm;rw [he]at m t z E j h;have L: ∀p∈J,aHz ops kd p i=true:=λp O=>by
      rcases(rD i _ J z).2 p O with hw|hm
      ·have:=jW f n hi hw;have A:=((t p).1 (List.mem_append_left _ (List.mem_append_left _ O))).2;rw [A]at this;cases this
      ·exact hm
     have u:=aGe T Y X i S J M a w r D L h;have u:=aLh (Qx:=Qx) T X r D u;refine wpOp_mono (λa w ⟨M,h⟩=>?_) u;rw [List.append_assoc,List.cons_append]at m t;obtain⟨n1,n2⟩:=aFe f G m t;refine ih _ (J++S) M a w (by simpa using f) (by rw [List.append_assoc];exact n1) (by rw [List.append_assoc];exact n2) (aFn i S J z) (aBo E λ_ u=>?_) (by simp at j⊢;omega) h.1 h.2.1 (aPp f G n hi) h.2.2;rcases mA.1 u with u|u
     ·exact List.mem_append_left _ u
     ·exact List.mem_append_right _ (List.mem_cons_of_mem _ u)
    ·exfalso;refine s λp z=>?_
     rcases(wJ E z hm).1 with q|q
     ·have:=jW f n hi q;have A:=((t p).1 (List.mem_append_left _ z)).2;rw [A]at this;cases this
     ·exact q.1
theorem aXx {md:Region.Mode}{Qx:Exit->Act->World->Prop} (G: ∀i B,kd i= .mk B-> ∀w,I w->B<=w.heap.size) (Y: ∀(k:Nat) (o:Oper) cs b,ops[k]? =some o->o.op≠ .select cs b) (H: ∀w w',I w->fK w w'->I w') (F:edgesB md ops=true) (u v:Nat) (post l2:List Nat)
  (J: ∀(f:Nat) (c:Array Bool) (l:List Nat) (M:Mm) (a:Act) (w:World),(∀p∈l,mvB ops kd p=true)->c.size=ops.size->(l++l2).Nodup->(∀i,i∈l++l2↔i<ops.size/\c.getD i true=false)->pairB md ops kd l=true->barB md ops kd l l2=true->(l++l2).length<=f->I w->nM M w->Dn md ops c->aB P I ops kd Q l M a w->wpAny P md ops Qx f c a w):
  ∀(f:Nat) (c:Array Bool) (pre:List Nat) (M:Mm) (a:Act) (w:World),c.size=ops.size->(pre++u::v::(post++l2)).Nodup->(∀i,i∈pre++u::v::(post++l2)↔i<ops.size/\c.getD i true=false)->forkB md ops kd pre u v post=true->barB md ops kd (pre++u::v::post) l2=true->(pre++u::v::(post++l2)).length<=f->I w->nM M w->Dn md ops c->
   aB P I ops kd (λM a w=>aB P I ops kd Q (u::v::post) M a w/\aB P I ops kd Q (v::u::post) M a w) pre M a w->wpAny P md ops Qx f c a w:=by
 have aa: ∀{c:Array Bool}{i:Nat},c.size=ops.size->i∈Region.ready md ops c->i<ops.size/\c.getD i true=false:=by
  intro c i e hi;obtain⟨z,o,ho,_⟩:=mem_ready.1 hi;exact⟨(Array.getElem?_eq_some_iff.1 ho).1,z⟩
 intro f
 induction f with
 |zero=>intro c pre M a w _ _ _ _ _ r;simp at r
 |succ f ih=>
  intro c pre M a w e O D hp S r A T n h;have am:=hp;unfold forkB at hp;simp only [Bool.and_eq_true,Bool.not_eq_true']at hp;obtain⟨⟨⟨⟨⟨y,R⟩,an⟩,_⟩,ao⟩,ab⟩:=hp;refine⟨λhr=>?_,λi hi=>?_⟩
  ·exfalso
   cases pre with
   |nil=>
    have:=aDg (p:=u) (l:=v::(post++l2)) e F D (λq j=>by
     rcases List.mem_cons.1 j with rfl|j
     ·exact an
     ·rcases mA.1 j with j|j
      ·exact pG (l1:=[]) y j
      ·exact(wJ S List.mem_cons_self j).2)
    rw [hr]at this;cases this
   |cons p pre=>
    have:=aDg (p:=p) (l:=pre++u::v::(post++l2)) e F D (λq j=>by
     rcases mA.1 j with j|j
     ·exact pG (l1:=[]) y (List.mem_append_left _ j)
     ·rcases List.mem_cons.1 j with rfl|j
      ·exact pG (l1:=[]) y (List.mem_append_right _ List.mem_cons_self)
      ·rcases List.mem_cons.1 j with rfl|j
       ·exact pG (l1:=[]) R (List.mem_append_right _ List.mem_cons_self)
       ·rcases mA.1 j with j|j
        ·exact pG (l1:=[]) y (List.mem_append_right _ (List.mem_cons_of_mem _ j))
        ·exact(wJ S List.mem_cons_self j).2)
    rw [hr]at this;cases this
  ·have C:=(aa e hi).1;have ac:=(D i).2 (aa e hi);rcases mA.1 ac with hm|hm
   ·obtain⟨p1,p2,rfl⟩:=List.append_of_mem hm;have ad:=y;rw [List.append_assoc,List.cons_append]at ad;have s: ∀p∈p1,aHz ops kd p i=true:=λp t=>by
     rcases(rD i _ p1 ad).2 p t with hw|hm
     ·have:=jW e n hi hw;have z:=((D p).1 (List.mem_append_left _ (List.mem_append_left _ t))).2;rw [z]at this;cases this
     ·exact hm
    have m:=aGe G Y H i p2 p1 M a w A T s h;have m:=aLh (Qx:=Qx) G H A T m;refine wpOp_mono (λa w ⟨M,h⟩=>?_) m;have L:=O;rw [List.append_assoc,List.cons_append]at L;have ag:=D;rw [List.append_assoc,List.cons_append]at ag;obtain⟨n1,n2⟩:=aFe e C L ag;refine ih _ (p1++p2) M a w (by simpa using e) (by rw [List.append_assoc];exact n1) (by rw [List.append_assoc];exact n2) (forkB_del am) (aBo S λx m=>by simp at m⊢;rcases m with h|h|h|h|h<;>simp [h]) (by simp at r⊢;omega) h.1 h.2.1 (aPp e C n hi) h.2.2
   ·rcases List.mem_cons.1 hm with rfl|hm
    ·have s: ∀p∈pre,aHz ops kd p i=true:=λp t=>by
      rcases(rD i _ pre y).2 p t with hw|hm
      ·have:=jW e n hi hw;have z:=((D p).1 (List.mem_append_left _ t)).2;rw [z]at this;cases this
      ·exact hm
     have h1:aB P I ops kd Q (pre++i::v::post) M a w:=by
      rw [uY];exact pJ (λ_ _ _ h=>h.1) pre M a w h
     have m:=aGe G Y H i (v::post) pre M a w A T s h1;have m:=aLh (Qx:=Qx) G H A T m;refine wpOp_mono (λa w ⟨M,h⟩=>?_) m;obtain⟨n1,n2⟩:=aFe (pre:=pre) e C O D;exact aLw G Y H F l2 J f _ (pre++v::post) M a w (by simpa using e) (by simpa using n1) (by simpa using n2) R (aBo S λx m=>by simp at m⊢;rcases m with h|h|h<;>simp [h]) (by simp at r⊢;omega) h.1 h.2.1 (aPp e C n hi) h.2.2
    ·rcases List.mem_cons.1 hm with rfl|hm
     ·have s: ∀p∈pre,aHz ops kd p i=true:=λp t=>by
       rcases(rD i _ pre R).2 p t with hw|hm
       ·have:=jW e n hi hw;have z:=((D p).1 (List.mem_append_left _ t)).2;rw [z]at this;cases this
       ·exact hm
      have h1:aB P I ops kd Q (pre++i::u::post) M a w:=by
       rw [uY];exact pJ (λ_ _ _ h=>h.2) pre M a w h
      have m:=aGe G Y H i (u::post) pre M a w A T s h1;have m:=aLh (Qx:=Qx) G H A T m;refine wpOp_mono (λa w ⟨M,h⟩=>?_) m;have E:(pre++u::i::(post++l2)).Perm (pre++i::u::(post++l2)):=List.Perm.append_left pre (List.Perm.swap i u _);obtain⟨n1,n2⟩:=aFe e C (E.nodup_iff.1 O) (λk=>by rw [<-E.mem_iff];exact D k);exact aLw G Y H F l2 J f _ (pre++u::post) M a w (by simpa using e) (by simpa using n1) (by simpa using n2) y (aBo S λx m=>by simp at m⊢;rcases m with h|h|h<;>simp [h]) (by simp at r⊢;omega) h.1 h.2.1 (aPp e C n hi) h.2.2
     ·exfalso;rcases mA.1 hm with hm|hm
      rotate_left
      ·have aj: ∀x,x∈pre++u::v::post->x∈pre++u::v::(post++l2)->mvB ops kd x=true:=λx h1 h2=>by
        rcases(wJ S h1 hm).1 with q|q
        ·have:=jW e n hi q;have z:=((D x).1 h2).2;rw [z]at this;cases this
        ·exact q.1
       rw [aj u (by simp) (by simp),aj v (by simp) (by simp)]at ab
       cases ab
      have X:=List.all_eq_true.1 ao i hm;simp only [Bool.or_eq_true]at X;rcases X with X|X
      ·have:=jW e n hi X;have z:=((D u).1 (List.mem_append_right _ List.mem_cons_self)).2;rw [z]at this;cases this
      ·have:=jW e n hi X;have z:=((D v).1 (List.mem_append_right _ (List.mem_cons_of_mem _ List.mem_cons_self))).2;rw [z]at this;cases this
theorem aMe {id N:Nat}{l:List Oper}{Qx:Exit->Env->World->Prop}{a:Act}{w:World}{pre post l2:List Nat}{u v:Nat}{I0:World->Prop}(L: ∀i B,kd i= .mk B-> ∀w,I w->B<=w.heap.size)(t: ∀i B,kd i= .mk B-> ∀w,I0 w->B<=w.heap.size)(hm:P.follows .mixedOrders=true)(H:Region.noSelect l.toArray=true)(m:edgesB .any l.toArray=true)(O:forkB .any l.toArray kd pre u v post=true)(R:barB .any l.toArray kd (pre++u::v::post) l2=true)(y:pairB .any l.toArray kd l2=true)
    (b:(pre++u::v::(post++l2)).Perm (List.range l.length))(J: ∀w w',I w->fK w w'->I w')(z: ∀w w',I0 w->fK w w'->I0 w')(s:I w)
    (h: ∀w',fK w w'->aB P I l.toArray kd (λM a w=>aB P I l.toArray kd (λ_ a w=>I0 w/\aB P I0 l.toArray kd (λ_ a w=> ∃c,Fits N a c/\Qx .normal c w) l2 none a w) (u::v::post) M a w/\aB P I l.toArray kd (λ_ a w=>I0 w/\aB P I0 l.toArray kd (λ_ a w=> ∃c,Fits N a c/\Qx .normal c w) l2 none a w) (v::u::post) M a w) pre (some λ_=>False) a w'):(Code.region id l.toArray true).wp P (aEv N Qx) a w:=by
 refine wp_region_any hm (aXx L (Region.noSelect_spec H) J m u v post l2 (λn f l M a w o C D S E F r s _ G j=>aCz (I:=I0) t (Region.noSelect_spec H) z m (λ_ _ _ h=>h) n f (l++l2) none a w C D S (aMy y E F) r (aRg l o s j).1 nM.no G (aRg l o s j).2) _ _ pre (some λ_=>False) a _ (by simp) (b.nodup_iff.2 List.nodup_range) (λi=>?_) O R (by rw [b.length_eq];simp) (J _ _ s ((Below.refl _ _).drew)) (λ_ e _ T=>by cases e;exact T.elim) (λ_ _ j _=>by simp [Array.getD_eq_getD_getElem?,Array.getElem?_replicate]at j;split at j<;>simp at j) (h _ ((Below.refl _ _).drew)));rw [b.mem_iff,List.mem_range];constructor;intro hi;exact⟨by simpa using hi,by simp [Array.getD_eq_getD_getElem?,hi]⟩;exact λh=>by simpa using h.1
theorem aEw {id N:Nat}{l:List Oper}{Qx:Exit->Env->World->Prop}{a:Act}{w:World}{σ:List Nat}(n: ∀i B,kd i= .mk B-> ∀w,I w->B<=w.heap.size)(hm:P.follows .mixedOrders=true)(o:Region.noSelect l.toArray=true)(f:edgesB .any l.toArray=true)(r:pairB .any l.toArray kd σ=true)
    (b:σ.Perm (List.range l.length))(m: ∀w w',I w->fK w w'->I w')(s:I w)(h: ∀w',fK w w'->aB P I l.toArray kd (λ_ a w=> ∃c,Fits N a c/\Qx .normal c w) σ (some λ_=>False) a w'):(Code.region id l.toArray true).wp P (aEv N Qx) a w:=by
 refine wp_region_any hm (aCz n (Region.noSelect_spec o) m f (λ_ _ _ h=>h) _ _ σ (some λ_=>False) a _ (by simp) (b.nodup_iff.2 List.nodup_range) (λi=>?_) r (by rw [b.length_eq];simp) (m _ _ s ((Below.refl _ _).drew)) (λ_ e _ t=>by cases e;exact t.elim) (λ_ _ j _=>by simp [Array.getD_eq_getD_getElem?,Array.getElem?_replicate]at j;split at j<;>simp at j) (h _ ((Below.refl _ _).drew)));rw [b.mem_iff,List.mem_range];constructor;intro hi;exact⟨by simpa using hi,by simp [Array.getD_eq_getD_getElem?,hi]⟩;exact λh=>by simpa using h.1
end

def kdOf (κ:List Kd)(i:Nat):Kd:=κ.getD i .pure

def XL (P:Program)(I:World->Prop)(N:Nat)(ops:Array Oper)(κ:List Kd)(K:Mm->Env->World->Prop)(M:Mm)(σ:List Nat)(l:List Oper)(ρ:Env)(w:World):Prop:=
 (l.map some=σ.map λi=>ops[i]?)-> ∀w',fK w w'->I w'-> ∀a,Fits N a ρ->aB P I ops (kdOf κ) (λM a w=> ∃b,Fits N a b/\K M b w) σ M a w'

section
variable {P:Program}{I:World->Prop}{N:Nat}{ops:Array Oper}{κ:List Kd}{K:Mm->Env->World->Prop}{Q:Exit->Env->World->Prop}{k:Nat}{M:Mm}{σ:List Nat}{rest:List Oper}{ρ:Env}{w:World}{v:Value}{d:Nat}{op:Op}{ty:TypeId}{pos:String}{af:Array Edge}{g:Option (Nat×Bool)}
def sel (l:List Oper):List Nat->List Oper
 | []=>[]
 |i::σ=>match l[i]? with
  |some o=>o::sel l σ
  |none=>[]
theorem aGm (l:List Oper): ∀(σ:List Nat),(∀i∈σ,i<l.length)->(sel l σ).map some=σ.map λi=>l.toArray[i]?
 | [],_=>rfl
 |i::σ,h=>by
  have hi:=h i List.mem_cons_self;have a:=aGm l σ (λj b=>h j (List.mem_cons_of_mem _ b));unfold sel;rw [gE hi];simp only [List.map_cons,a];simp [hi]
theorem WP_mix {id:Nat}{l:List Oper}(σ:List Nat)(κ:List Kd)(m: ∀i B,kdOf κ i= .mk B-> ∀w,I w->B<=w.heap.size)(hm:P.follows .mixedOrders=true)(n:Region.noSelect l.toArray=true)(e:edgesB .any l.toArray=true)(o:pairB .any l.toArray (kdOf κ) σ=true)
    (b:σ.isPerm (List.range l.length)=true)(f: ∀w w',I w->fK w w'->I w')(j:I w)(h:XL P I N l.toArray κ (λ_ ρ w=>Q .normal ρ w) (some λ_=>False) σ (sel l σ) ρ w):WP P N (.region id l.toArray true) Q ρ w:=by
 have b:σ.Perm (List.range l.length):=List.isPerm_iff.1 b;intro a p;refine aEw (I:=I) (σ:=σ) m hm n e o b f j (λw' c=>?_);exact h (aGm l σ λi hi=>List.mem_range.1 (b.mem_iff.1 hi)) w' c (f _ _ j c) a p
theorem xN {id:Nat}{l:List Oper}(σ:List Nat)(κ:List Kd)(m: ∀i B,kdOf κ i= .mk B-> ∀w,I w->B<=w.heap.size)(hm:P.follows .mixedOrders=true)(n:Region.noSelect l.toArray=true)(e:edgesB .any l.toArray=true)(o:pairB .any l.toArray (kdOf κ) σ=true)
    (b:σ=List.range l.length)(f: ∀w w',I w->fK w w'->I w')(j:I w)(h:XL P I N l.toArray κ (λ_ ρ w=>Q .normal ρ w) (some λ_=>False) σ l ρ w):WP P N (.region id l.toArray true) Q ρ w:=by
 intro a p;refine aEw (I:=I) (σ:=σ) m hm n e o (by rw [b]) f j (λw' c=>?_);refine h ?_ w' c (f _ _ j c) a p;rw [b];apply List.ext_getElem;simp;intro i h1 _;simp

theorem XL_nil (h: ∀w',fK w w'->K M ρ w'):XL P I N ops κ K M σ [] ρ w:=by
 intro b w' a _ _ c;have:σ=[]:=by
  have:=congrArg List.length b;simp at this;exact List.eq_nil_of_length_eq_zero this.symm
 subst this;exact⟨ρ,c,h w' a⟩
theorem XL.head {o:Oper}(a:(o::rest).map some=(k::σ).map λi=>ops[i]?):ops[k]? =some o:=by
 simp only [List.map_cons,List.cons.injEq]at a;exact a.1.symm
theorem XL.tail {o:Oper}(a:(o::rest).map some=(k::σ).map λi=>ops[i]?):rest.map some=σ.map λi=>ops[i]? :=by
 simp only [List.map_cons,List.cons.injEq]at a;exact a.2

theorem XL_pure (hk:kdOf κ k= .pure)(f:fO N ops ρ ⟨some d,op,ty,pos,af,g⟩=true)(hd:Nat.blt d N=true)(h: ∀w',I w'->Do P ⟨some d,op,ty,pos,af,g⟩ ρ w' v w')(n:XL P I N ops κ K M σ rest (upd ρ d v) w):
    XL P I N ops κ K M (k::σ) (⟨some d,op,ty,pos,af,g⟩::rest) ρ w:=by
 intro e w' b i _ c;simp only [aB];unfold xOp;simp only [XL.head e,hk];exact⟨v,.inl ⟨by rw [c.wanted];exact f,λj l=>by rw [c.eval];exact h j l⟩,n (XL.tail e) w' b i _ (c.put (xR hd) v)⟩
theorem XL_offp (hk:kdOf κ k= .pure)(f:fO N ops ρ ⟨some d,op,ty,pos,af,g⟩=false)(hd:Nat.blt d N=true)(n:XL P I N ops κ K M σ rest (upd ρ d undef) w):
    XL P I N ops κ K M (k::σ) (⟨some d,op,ty,pos,af,g⟩::rest) ρ w:=by
 intro c w' b h _ e;simp only [aB];unfold xOp;simp only [XL.head c,hk];exact⟨undef,.inr ⟨by rw [e.wanted];exact f,rfl⟩,n (XL.tail c) w' b h _ (e.put (xR hd) _)⟩
theorem XL_offf (h: ∀w w',I w->fK w w'->I w')(hk:kdOf κ k= .fcall)(i:fO N ops ρ ⟨some d,op,ty,pos,af,g⟩=false)(hd:Nat.blt d N=true)(n:XL P I N ops κ K M σ rest (upd ρ d undef) w):
    XL P I N ops κ K M (k::σ) (⟨some d,op,ty,pos,af,g⟩::rest) ρ w:=by
 intro c w' b j _ e;simp only [aB];unfold xOp;simp only [XL.head c,hk];exact⟨undef,.inr ⟨by rw [e.wanted];exact i,rfl⟩,λl f=>n (XL.tail c) l (b.trans f) (h _ _ j f) _ (e.put (xR hd) _)⟩
theorem XL_offr (h: ∀w w',I w->fK w w'->I w')(hk:kdOf κ k= .read)(i:fO N ops ρ ⟨some d,op,ty,pos,af,g⟩=false)(hd:Nat.blt d N=true)(n:XL P I N ops κ K M σ rest (upd ρ d undef) w):
    XL P I N ops κ K M (k::σ) (⟨some d,op,ty,pos,af,g⟩::rest) ρ w:=by
 intro c w' b j _ e;simp only [aB];unfold xOp;simp only [XL.head c,hk];exact⟨undef,.inr ⟨by rw [e.wanted];exact i,rfl⟩,λl f=>n (XL.tail c) l (b.trans f) (h _ _ j f) _ (e.put (xR hd) _)⟩
theorem xJ (j: ∀w w',I w->fK w w'->I w')(hk:kdOf κ k= .read)(l:fO N ops ρ ⟨some d,op,ty,pos,af,g⟩=true)(hd:Nat.blt d N=true)(h: ∀w',fK w w'->Do P ⟨some d,op,ty,pos,af,g⟩ ρ w' v w')(n:XL P I N ops κ K M σ rest (upd ρ d v) w):
    XL P I N ops κ K M (k::σ) (⟨some d,op,ty,pos,af,g⟩::rest) ρ w:=by
 intro i w' b m _ f;simp only [aB];unfold xOp;simp only [XL.head i,hk];refine⟨v,.inl ⟨by rw [f.wanted];exact l,λc e=>?_⟩,λc e=>n (XL.tail i) c (b.trans e) (j _ _ m e) _ (f.put (xR hd) v)⟩;rw [f.eval,show(execOp (ev ρ) _).run P c=_ from h c (b.trans e)];exact⟨rfl,rfl⟩
theorem XL_call {f:FuncId}{args:Array Value}(o: ∀w w',I w->fK w w'->I w')(hk:kdOf κ k= .read)(p:fO N ops ρ ⟨some d,op,ty,pos,af,g⟩=true)(hd:Nat.blt d N=true)(h: ∀w',fK w w'->DoC P ⟨some d,op,ty,pos,af,g⟩ ρ w' f args)
    (q: ∀w',fK w w'->Calls P f args w' λe j=>e= .returned v/\Below w'.heap.size w' j)(n:XL P I N ops κ K M σ rest (upd ρ d v) w):
    XL P I N ops κ K M (k::σ) (⟨some d,op,ty,pos,af,g⟩::rest) ρ w:=by
 intro m w' b r _ l;simp only [aB];unfold xOp;simp only [XL.head m,hk];refine⟨v,.inl ⟨by rw [l.wanted];exact p,λc i=>?_⟩,λc i=>n (XL.tail m) c (b.trans i) (o _ _ r i) _ (l.put (xR hd) v)⟩;rw [l.eval,show(execOp (ev ρ) _).run P c=_ from h c (b.trans i)];exact⟨rfl,(q c (b.trans i)).mono λe _ ⟨s,t⟩=>⟨s,t⟩⟩
theorem XL_fcall {f:FuncId}{args:Array Value}(o: ∀w w',I w->fK w w'->I w')(hk:kdOf κ k= .fcall)(p:fO N ops ρ ⟨some d,op,ty,pos,af,g⟩=true)(hd:Nat.blt d N=true)(h: ∀w',I w'->DoC P ⟨some d,op,ty,pos,af,g⟩ ρ w' f args)
    (q: ∀w',I w'->Calls P f args w' λe i=>e= .returned v/\Below w'.heap.size w' i)(n:XL P I N ops κ K M σ rest (upd ρ d v) w):
    XL P I N ops κ K M (k::σ) (⟨some d,op,ty,pos,af,g⟩::rest) ρ w:=by
 intro m w' j r _ l;simp only [aB];unfold xOp;simp only [XL.head m,hk];refine⟨v,.inl ⟨by rw [l.wanted];exact p,λb c=>?_⟩,λb c=>n (XL.tail m) b (j.trans c) (o _ _ r c) _ (l.put (xR hd) v)⟩;rw [l.eval,show(execOp (ev ρ) _).run P b=_ from h b c];exact⟨rfl,(q b c).mono λe _ ⟨s,t⟩=>⟨s,t⟩⟩
theorem XL_splitb {b:Bool}{x:Operand}(hk:kdOf κ k= .pure)(a:fO N ops ρ ⟨some d,.move x,ty,pos,af,g⟩=true)(hd:Nat.blt d N=true)(c:ev ρ x= .bool b)
    (e:b=true->XL P I N ops κ K M σ rest (upd ρ d (.bool true)) w)(f:b=false->XL P I N ops κ K M σ rest (upd ρ d (.bool false)) w):XL P I N ops κ K M (k::σ) (⟨some d,.move x,ty,pos,af,g⟩::rest) ρ w:=by
 refine XL_pure (v:= .bool b) hk a hd (λ_ _=>by unfold Do;simp [execOp,c]) ?_;cases b;exact f rfl;exact e rfl
theorem XL_exN {R:World->Value->World->Prop}(j: ∀w w',I w->fK w w'->I w')(hk:kdOf κ k= .new)(o:fO N ops ρ ⟨some d,op,ty,pos,af,g⟩=true)(hd:Nat.blt d N=true)
    (h: ∀b,fK w b-> ∃v w',Do P ⟨some d,op,ty,pos,af,g⟩ ρ b v w'/\fK b w'/\R b v w')(n: ∀b v w',fK w b->R b v w'->XL P I N ops κ K M σ rest (upd ρ d v) w'):XL P I N ops κ K M (k::σ) (⟨some d,op,ty,pos,af,g⟩::rest) ρ w:=by
 intro l w' c p _ f;obtain⟨v,i,h1,m,q⟩:=h w' c;simp only [aB];unfold xOp;simp only [XL.head l,hk];exact .inl ⟨by rw [f.wanted];exact o,.inl ⟨v,i,by rw [f.eval];exact h1,m,λr e=>n _ _ _ c q (XL.tail l) r e (j _ _ (j _ _ p m) e) _ (f.put (xR hd) v)⟩⟩
theorem XL_newC {f:FuncId}{args:Array Value}{R:World->Ending->World->Prop}(l: ∀w w',I w->fK w w'->I w')(hk:kdOf κ k= .new)(p:fO N ops ρ ⟨some d,op,ty,pos,af,g⟩=true)(hd:Nat.blt d N=true)(h: ∀w',fK w w'->DoC P ⟨some d,op,ty,pos,af,g⟩ ρ w' f args)
    (q: ∀w',fK w w'->Calls P f args w' (R w'))(n: ∀w' e b,fK w w'->R w' e b-> ∃v,e= .returned v/\fK w' b/\XL P I N ops κ K M σ rest (upd ρ d v) b):XL P I N ops κ K M (k::σ) (⟨some d,op,ty,pos,af,g⟩::rest) ρ w:=by
 intro m w' c r _ j;simp only [aB];unfold xOp;simp only [XL.head m,hk];refine .inl ⟨by rw [j.wanted];exact p,.inr ⟨f,args,by rw [j.eval];exact h w' c,(q w' c).mono λe b s=>?_⟩⟩;obtain⟨v,t,o,u⟩:=n w' e b c s;exact⟨v,t,o,λx i=>u (XL.tail m) x i (l _ _ (l _ _ r o) i) _ (j.put (xR hd) v)⟩
theorem XL_ex {R:World->Value->World->Prop}(m: ∀w w',I w->fK w w'->I w')(hk:kdOf κ k= .eff)(o:fO N ops ρ ⟨some d,op,ty,pos,af,g⟩=true)(hd:Nat.blt d N=true)(h: ∀b,fK w b-> ∃v w',Do P ⟨some d,op,ty,pos,af,g⟩ ρ b v w'/\R b v w')
    (n: ∀b v w',fK w b->R b v w'->I w'/\XL P I N ops κ K none σ rest (upd ρ d v) w'):XL P I N ops κ K M (k::σ) (⟨some d,op,ty,pos,af,g⟩::rest) ρ w:=by
 intro l w' c _ _ f;obtain⟨v,i,h1,p⟩:=h w' c;simp only [aB];unfold xOp;simp only [XL.head l,hk];have j:=n _ _ _ c p;exact .inl ⟨by rw [f.wanted];exact o,.inl ⟨v,i,by rw [f.eval];exact h1,j.1,none,nM.no,λq e=>j.2 (XL.tail l) q e (m _ _ j.1 e) _ (f.put (xR hd) v)⟩⟩
theorem XL_exU {R:World->World->Prop}(m: ∀w w',I w->fK w w'->I w')(hk:kdOf κ k= .eff)(o:fO N ops ρ ⟨none,op,ty,pos,af,g⟩=true)(h: ∀b,fK w b-> ∃w',DoU P ⟨none,op,ty,pos,af,g⟩ ρ b w'/\R b w')
    (n: ∀b w',fK w b->R b w'->I w'/\XL P I N ops κ K none σ rest ρ w'):XL P I N ops κ K M (k::σ) (⟨none,op,ty,pos,af,g⟩::rest) ρ w:=by
 intro l w' c _ _ f;obtain⟨i,h1,p⟩:=h w' c;simp only [aB];unfold xOp;simp only [XL.head l,hk];have j:=n _ _ c p;exact .inl ⟨by rw [f.wanted];exact o,.inr (.inl ⟨i,by rw [f.eval];exact h1,j.1,none,nM.no,λq e=>j.2 (XL.tail l) q e (m _ _ j.1 e) _ f⟩)⟩
theorem XL_effC {f:FuncId}{args:Array Value}{R:World->Ending->World->Prop}(o: ∀w w',I w->fK w w'->I w')(hk:kdOf κ k= .eff)(p:fO N ops ρ ⟨some d,op,ty,pos,af,g⟩=true)(hd:Nat.blt d N=true)(h: ∀w',fK w w'->DoC P ⟨some d,op,ty,pos,af,g⟩ ρ w' f args)
    (q: ∀w',fK w w'->Calls P f args w' (R w'))(n: ∀w' e b,fK w w'->R w' e b-> ∃v,e= .returned v/\I b/\XL P I N ops κ K none σ rest (upd ρ d v) b):XL P I N ops κ K M (k::σ) (⟨some d,op,ty,pos,af,g⟩::rest) ρ w:=by
 intro l w' c _ _ j;simp only [aB];unfold xOp;simp only [XL.head l,hk];refine .inl ⟨by rw [j.wanted];exact p,.inr (.inr ⟨f,args,by rw [j.eval];exact h w' c,(q w' c).mono λe b r=>?_⟩)⟩;obtain⟨v,s,m,t⟩:=n w' e b c r;exact⟨v,s,m,none,nM.no,λu i=>t (XL.tail l) u i (o _ _ m i) _ (j.put (xR hd) v)⟩
theorem XL_exP {R:Value->Prop}(hk:kdOf κ k= .pure)(a:fO N ops ρ ⟨some d,op,ty,pos,af,g⟩=true)(hd:Nat.blt d N=true)(h: ∃v,(∀w',Do P ⟨some d,op,ty,pos,af,g⟩ ρ w' v w')/\R v)(n: ∀v,R v->XL P I N ops κ K M σ rest (upd ρ d v) w):
    XL P I N ops κ K M (k::σ) (⟨some d,op,ty,pos,af,g⟩::rest) ρ w:=by
 obtain⟨v,h1,b⟩:=h;exact XL_pure hk a hd (λw' _=>h1 w') (n v b)
theorem XL_mk {A:Nat->Prop}{B:Nat}{m:Mk}{cs:List Value}{T:TypeId}(o: ∀w w',I w->fK w w'->I w')(hk:kdOf κ k= .mk B)(p:fO N ops ρ ⟨some d,op,ty,pos,af,g⟩=true)(hd:Nat.blt d N=true)
    (h: ∀w',I w'->Do P ⟨some d,op,ty,pos,af,g⟩ ρ w' (m.val w'.heap.size) (w'.alloc (.cells cs.toArray T)))
    (n: ∀b c,fK w c->B<=b-> ¬A b->Blk c b cs T->XL P I N ops κ K (some λx=>x=b\/A x) σ rest (upd ρ d (m.val b)) c):XL P I N ops κ K (some A) (k::σ) (⟨some d,op,ty,pos,af,g⟩::rest) ρ w:=by
 intro i w' e q _ f;simp only [aB];unfold xOp;simp only [XL.head i,hk];refine .inl ⟨by rw [f.wanted];exact p,A,m,cs,T,rfl,λr s=>by rw [f.eval];exact h r s,λb j l t u y=>?_⟩;exact n b j (e.trans l) t u y (XL.tail i) j (fK.refl _) (o _ _ q l) _ (f.put (xR hd) _)
theorem upd_comm (ρ:Env){d e:Nat}(h:d≠e)(u v:Value):upd (upd ρ d u) e v=upd (upd ρ e v) d u:=by
 funext x;unfold upd;by_cases h1:x=e<;>by_cases b:x=d<;>simp [h1,b];exact absurd (b.symm.trans h1) h;intro a;exact absurd a.symm h;intro a;exact absurd a h
theorem XL_join {u v du dv:Nat}{j l:Oper}(f:Value->Value->World->Prop)
  (B:XL P I N ops κ (λ_ b w'=> ∃c vb,b=upd (upd ρ du c) dv vb/\I w'/\f c vb w') M [u,v] [j,l] ρ w)
  (C:XL P I N ops κ (λ_ b w'=> ∃c vb,b=upd (upd ρ du c) dv vb/\I w'/\f c vb w') M [v,u] [l,j] ρ w)
  (post: ∀o c vb w',f c vb w'->XL P I N ops κ K o σ rest (upd (upd ρ du c) dv vb) w'):
  XL P I N ops κ K M (u::v::σ) (j::l::rest) ρ w/\XL P I N ops κ K M (v::u::σ) (l::j::rest) ρ w:=by
 have A: ∀{p q:Nat}{op m:Oper},XL P I N ops κ (λ_ b w'=> ∃c vb,b=upd (upd ρ du c) dv vb/\I w'/\f c vb w') M [p,q] [op,m] ρ w->XL P I N ops κ K M (p::q::σ) (op::m::rest) ρ w:=by
  intro p q op m h n w' r D a E;have s:rest.map some=σ.map λi=>ops[i]? :=XL.tail (XL.tail n)
  have t:[op,m].map some=[p,q].map λi=>ops[i]? :=by
   simp only [List.map_cons,List.cons.injEq,List.map_nil]at n⊢;exact⟨n.1,n.2.1,trivial⟩
  have h1:=h t w' r D a E;have e:p::q::σ=[p,q]++σ:=rfl;rw [e,uY];refine pJ (λo a x ⟨b,F,c,vb,y,z,hm⟩=>?_) [p,q] M a w' h1;subst y;exact post o c vb x hm s x (fK.refl x) z a F
 exact⟨A B,A C⟩
theorem WP_fork {id:Nat}{l:List Oper}{I0:World->Prop}(pre:List Nat)(u v:Nat)(post l2:List Nat)(κ:List Kd)(p: ∀i B,kdOf κ i= .mk B-> ∀w,I w->B<=w.heap.size)(q: ∀i B,kdOf κ i= .mk B-> ∀w,I0 w->B<=w.heap.size)(hm:P.follows .mixedOrders=true)(D:Region.noSelect l.toArray=true)(r:edgesB .any l.toArray=true)(E:forkB .any l.toArray (kdOf κ) pre u v post=true)(F:barB .any l.toArray (kdOf κ) (pre++u::v::post) l2=true)(s:pairB .any l.toArray (kdOf κ) l2=true)
  (c:(pre++u::v::(post++l2)).isPerm (List.range l.length)=true)(n: ∀w w',I w->fK w w'->I w')(t: ∀w w',I0 w->fK w w'->I0 w')(y:I w)
  (h:XL P I N l.toArray κ (λM ρ w=>XL P I N l.toArray κ (λ_ ρ w=>I0 w/\XL P I0 N l.toArray κ (λ_ ρ w=>Q .normal ρ w) none l2 (sel l l2) ρ w) M (u::v::post) (sel l (u::v::post)) ρ w/\XL P I N l.toArray κ (λ_ ρ w=>I0 w/\XL P I0 N l.toArray κ (λ_ ρ w=>Q .normal ρ w) none l2 (sel l l2) ρ w) M (v::u::post) (sel l (v::u::post)) ρ w) (some λ_=>False) pre (sel l pre) ρ w):WP P N (.region id l.toArray true) Q ρ w:=by
 have c:(pre++u::v::(post++l2)).Perm (List.range l.length):=List.isPerm_iff.1 c;have f: ∀i∈pre++u::v::(post++l2),i<l.length:=λi hi=>List.mem_range.1 (c.mem_iff.1 hi)
 intro a G;refine aMe (I:=I) (I0:=I0) (pre:=pre) (post:=post) (l2:=l2) (u:=u) (v:=v) p q hm D r E F s c n t y (λw' j=>?_);have h1:=h (aGm l pre λi hi=>f i (List.mem_append_left _ hi)) w' j (n _ _ y j) a G;have H:=aSq n pre _ a w' (n _ _ y j) (λ_ e _ z=>by cases e;exact z.elim) h1;have fin: ∀{a w},(∃b,Fits N a b/\(I0 w/\XL P I0 N l.toArray κ (λ_ ρ w=>Q .normal ρ w) none l2 (sel l l2) b w))->I0 w/\aB P I0 l.toArray (kdOf κ) (λ_ a w=> ∃b,Fits N a b/\Q .normal b w) l2 none a w:=λ {a w} ⟨b,o,C,z⟩=>
  ⟨C,z (aGm l l2 λi hi=>f i (List.mem_append_right _ (List.mem_cons_of_mem _ (List.mem_cons_of_mem _ (List.mem_append_right _ hi))))) w (fK.refl w) C a o⟩
 refine pJ (λM a w ⟨m,b,o,J,p⟩=>⟨?_,?_⟩) pre _ a w' H
 ·exact pJ (λ_ _ _ h=>fin h) _ _ _ _ (J (aGm l _ λi hi=>f i (List.mem_append_right _ (by simp at hi⊢;rcases hi with h|h|h<;>simp [h]))) w (fK.refl w) m a o)
 ·exact pJ (λ_ _ _ h=>fin h) _ _ _ _ (p (aGm l _ λi hi=>f i (List.mem_append_right _ (by simp at hi⊢;rcases hi with h|h|h<;>simp [h]))) w (fK.refl w) m a o)
end
end Go.MxM
