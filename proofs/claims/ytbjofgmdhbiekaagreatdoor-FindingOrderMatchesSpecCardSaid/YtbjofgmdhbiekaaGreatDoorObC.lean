/- Laws that the claim stands on; no condition beyond those stated. -/
import Derived.Test.YtbjofgmdhbiekaaGreatDoorObB
namespace Go.MxM
open Go.OB
open Go.RowKit

inductive Kd where
 |pure|fcall|read|new|eff
 |mk (B:Nat)
inductive Mk where
 |ptr
 |sl (n:Nat)
def Mk.val:Mk->Nat->Value
 | .ptr,b=> .pointer (some ⟨b,0,none⟩)
 | .sl n,b=> .slice (some ⟨b,0,none⟩) n n
theorem Mk.inj {m m':Mk}{b:Nat}(h:m.val b=m'.val b):m=m':=by
 cases m<;>cases m'<;>simp [Mk.val]at h⊢;exact h
abbrev Mm:=Option (Nat->Prop)
def Kd.isMk:Kd->Bool
 | .mk _=>true|_=>false
theorem alloc_inj {w:World}{cs cs':List Value}{T b:TypeId}(h:w.alloc (.cells cs.toArray T)=w.alloc (.cells cs'.toArray b)):cs=cs'/\T=b:=by
 have c:=(Al.mk' w cs T).blk;rw [h]at c;have a:=(Al.mk' w cs' b).blk;unfold Blk at c a;rw [c]at a;simp at a;exact a
theorem Blk.Z {w w':World}{b:Nat}{cs:List Value}{T:TypeId}(h:Blk w b cs T)(a:fJ w w'):Blk w' b cs T:=h.only (Only.of_below a) (by simp)
def Kd.isPure:Kd->Bool
 | .pure=>true|_=>false
def Kd.isFcall:Kd->Bool
 | .fcall=>true|_=>false
def Kd.isRead:Kd->Bool
 | .read=>true|_=>false
def Kd.isNew:Kd->Bool
 | .new=>true|_=>false
def aDd (P:Program)(I:World->Prop)(ops:Array Oper)(o:Oper)(v:Value)(a:Act):Prop:=
 (Region.wanted o (yielded ops a.tmps)=true/\ ∀w',I w'->(execOp a.eval o).run P w'= .ok (.value v) w')\/(Region.wanted o (yielded ops a.tmps)=false/\v=undef)
def aKf (P:Program)(I:World->Prop)(ops:Array Oper)(o:Oper)(v:Value)(a:Act):Prop:=
 (Region.wanted o (yielded ops a.tmps)=true/\ ∀w',I w'->aBs P w' v ((execOp a.eval o).run P w'))\/(Region.wanted o (yielded ops a.tmps)=false/\v=undef)

def nG (M:Mm)(w:World):Prop:= ∀A,M=some A-> ∀x,A x->x<w.heap.size
theorem nG.Z {M:Mm}{w w':World}(h:nG M w)(a:fJ w w'):nG M w':=λA e x b=>Nat.lt_of_lt_of_le (h A e x b) a.size
theorem nG.no {w:World}:nG none w:=λ_ e=>by cases e
theorem nG.mk {A:Nat->Prop}{w w':World}{b:Nat}{cs:List Value}{T:TypeId}(h:nG (some A) w)(c:fJ w w')(f:Blk w' b cs T):nG (some λx=>x=b\/A x) w':=by
 intro _ e x a
 cases e
 rcases a with rfl|a
 ·exact(Array.getElem?_eq_some_iff.1 f).1
 ·exact(h.Z c) A rfl x a
theorem nG.new {A:Nat->Prop}{w:World}(h:nG (some A) w): ¬A w.heap.size:=λa=>Nat.lt_irrefl _ (h A rfl _ a)

def xOp (P:Program)(I:World->Prop)(ops:Array Oper)(kd:Nat->Kd)(i:Nat)(K:Mm->Act->World->Prop)(M:Mm)(a:Act)(w:World):Prop:=
  match ops[i]? with
  |none=>False
  |some o=>match kd i with
    | .pure=> ∃v,aDd P I ops o v a/\K M (a.put o.dst v) w
    | .fcall=> ∃v,aKf P I ops o v a/\ ∀w',fJ w w'->K M (a.put o.dst v) w'
    | .read=> ∃v,aBr P ops w o v a/\ ∀w',fJ w w'->K M (a.put o.dst v) w'
    | .new=>(Region.wanted o (yielded ops a.tmps)=true/\
        ((∃v w',(execOp a.eval o).run P w= .ok (.value v) w'/\fJ w w'/\ ∀c,fJ w' c->K M (a.put o.dst v) c)\/
         (∃f args,(execOp a.eval o).run P w= .ok (.enter f args) w/\Calls P f args w λe w'=> ∃v,e= .returned v/\fJ w w'/\ ∀c,fJ w' c->K M (a.put o.dst v) c)))\/
        (Region.wanted o (yielded ops a.tmps)=false/\ ∀c,fJ w c->K M (a.put o.dst undef) c)
    | .eff=>(Region.wanted o (yielded ops a.tmps)=true/\
        ((∃v w',(execOp a.eval o).run P w= .ok (.value v) w'/\I w'/\ ∃h,nG h w'/\ ∀c,fJ w' c->K h (a.put o.dst v) c)\/(∃w',(execOp a.eval o).run P w= .ok .skip w'/\I w'/\ ∃h,nG h w'/\ ∀c,fJ w' c->K h (a.put o.dst undef) c)\/
         (∃f args,(execOp a.eval o).run P w= .ok (.enter f args) w/\Calls P f args w λe w'=> ∃v,e= .returned v/\I w'/\ ∃h,nG h w'/\ ∀c,fJ w' c->K h (a.put o.dst v) c)))\/
        (Region.wanted o (yielded ops a.tmps)=false/\ ∀c,fJ w c->K M (a.put o.dst undef) c)
    | .mk B=>(Region.wanted o (yielded ops a.tmps)=true/\ ∃(A:Nat->Prop) (m:Mk) (cs:List Value) (T:TypeId),M=some A/\(∀w',I w'->(execOp a.eval o).run P w'= .ok (.value (m.val w'.heap.size)) (w'.alloc (.cells cs.toArray T)))/\
        ∀b c,fJ w c->B<=b-> ¬A b->Blk c b cs T->K (some λx=>x=b\/A x) (a.put o.dst (m.val b)) c)\/
        (Region.wanted o (yielded ops a.tmps)=false/\ ∀c,fJ w c->K M (a.put o.dst undef) c)

def bW (P:Program)(I:World->Prop)(ops:Array Oper)(kd:Nat->Kd)(Q:Mm->Act->World->Prop):List Nat->Mm->Act->World->Prop
 | [],M,a,w=>Q M a w
 |i::l,M,a,w=>xOp P I ops kd i (bW P I ops kd Q l) M a w

section
variable {P:Program}{I:World->Prop}{ops:Array Oper}{kd:Nat->Kd}{Q:Mm->Act->World->Prop}

theorem aKq {i:Nat}{K z:Mm->Act->World->Prop}{M:Mm}{a:Act}{w:World} (h: ∀o M v w,ops[i]? =some o->K M (a.put o.dst v) w->z M (a.put o.dst v) w) (hh:xOp P I ops kd i K M a w):xOp P I ops kd i z M a w:=by
 unfold xOp at *
 cases ho:ops[i]? with
 |none=>simp only [ho]at hh
 |some o=>
  have h:=λM v w=>h o M v w ho
  simp only [ho]at hh⊢
  cases u:kd i<;>simp only [u]at hh⊢
  ·obtain⟨v,n,p⟩:=hh;exact⟨v,n,h _ _ _ p⟩
  ·obtain⟨v,n,p⟩:=hh;exact⟨v,n,λw' j=>h _ _ _ (p w' j)⟩
  ·obtain⟨v,n,p⟩:=hh;exact⟨v,n,λw' j=>h _ _ _ (p w' j)⟩
  ·rcases hh with ⟨q,hh⟩|⟨q,hh⟩
   rotate_left
   ·exact .inr ⟨q,λc j=>h _ _ _ (hh c j)⟩
   refine .inl ⟨q,?_⟩;rcases hh with ⟨v,w',n,t,p⟩|⟨f,args,n,p⟩
   ·exact .inl ⟨v,w',n,t,λc j=>h _ _ _ (p c j)⟩
   ·exact .inr ⟨f,args,n,p.mono λe w' ⟨v,y,t,u⟩=>⟨v,y,t,λc j=>h _ _ _ (u c j)⟩⟩
  ·rcases hh with ⟨q,hh⟩|⟨q,hh⟩
   rotate_left
   ·exact .inr ⟨q,λc j=>h _ _ _ (hh c j)⟩
   refine .inl ⟨q,?_⟩;rcases hh with ⟨v,w',n,t,x,s,p⟩|⟨w',n,t,x,s,p⟩|⟨f,args,n,p⟩
   ·exact .inl ⟨v,w',n,t,x,s,λc j=>h _ _ _ (p c j)⟩
   ·exact .inr (.inl ⟨w',n,t,x,s,λc j=>h _ _ _ (p c j)⟩)
   ·exact .inr (.inr ⟨f,args,n,p.mono λe w' ⟨v,y,t,x,s,u⟩=>⟨v,y,t,x,s,λc j=>h _ _ _ (u c j)⟩⟩)
  ·rcases hh with ⟨q,A,m,cs,T,B,n,p⟩|⟨q,hh⟩
   ·exact .inl ⟨q,A,m,cs,T,B,n,λb c C D E F=>h _ _ _ (p b c C D E F)⟩
   ·exact .inr ⟨q,λc j=>h _ _ _ (hh c j)⟩

theorem aLk {i:Nat}{K b:Mm->Act->World->Prop}(h: ∀M a w,K M a w->b M a w){M:Mm}{a:Act}{w:World}(hh:xOp P I ops kd i K M a w):xOp P I ops kd i b M a w:=aKq (λ_ _ _ _ _=>h _ _ _) hh

theorem aWt {i:Nat}{K:Mm->Act->World->Prop}{M:Mm}{a:Act}{w:World} (s: ∀w w',I w->fJ w w'->I w') (u:I w) (x:nG M w) (hh:xOp P I ops kd i K M a w):xOp P I ops kd i (λM a w=>I w/\nG M w/\K M a w) M a w:=by
 unfold xOp at *
 cases ho:ops[i]? with
 |none=>simp only [ho]at hh
 |some _=>
  simp only [ho]at hh⊢
  cases y:kd i<;>simp only [y]at hh⊢
  ·obtain⟨v,j,n⟩:=hh;exact⟨v,j,u,x,n⟩
  ·obtain⟨v,j,n⟩:=hh;exact⟨v,j,λw' c=>⟨s _ _ u c,x.Z c,n w' c⟩⟩
  ·obtain⟨v,j,n⟩:=hh;exact⟨v,j,λw' c=>⟨s _ _ u c,x.Z c,n w' c⟩⟩
  ·rcases hh with ⟨t,hh⟩|⟨t,hh⟩
   rotate_left
   ·exact .inr ⟨t,λh c=>⟨s _ _ u c,x.Z c,hh h c⟩⟩
   refine .inl ⟨t,?_⟩;rcases hh with ⟨v,w',j,q,n⟩|⟨f,args,j,n⟩
   ·exact .inl ⟨v,w',j,q,λh c=>⟨s _ _ (s _ _ u q) c,(x.Z q).Z c,n h c⟩⟩
   ·exact .inr ⟨f,args,j,n.mono λe w' ⟨v,B,q,y⟩=>⟨v,B,q,λh c=>⟨s _ _ (s _ _ u q) c,(x.Z q).Z c,y h c⟩⟩⟩
  ·rcases hh with ⟨t,hh⟩|⟨t,hh⟩
   rotate_left
   ·exact .inr ⟨t,λh c=>⟨s _ _ u c,x.Z c,hh h c⟩⟩
   refine .inl ⟨t,?_⟩;rcases hh with ⟨v,w',j,q,z,p,n⟩|⟨w',j,q,z,p,n⟩|⟨f,args,j,n⟩
   ·exact .inl ⟨v,w',j,q,z,p,λh c=>⟨s _ _ q c,p.Z c,n h c⟩⟩
   ·exact .inr (.inl ⟨w',j,q,z,p,λh c=>⟨s _ _ q c,p.Z c,n h c⟩⟩)
   ·exact .inr (.inr ⟨f,args,j,n.mono λe w' ⟨v,B,q,z,p,y⟩=>⟨v,B,q,z,p,λh c=>⟨s _ _ q c,p.Z c,y h c⟩⟩⟩)
  ·rcases hh with ⟨t,A,m,cs,T,E,j,n⟩|⟨t,hh⟩
   ·subst E;exact .inl ⟨t,A,m,cs,T,rfl,j,λb h C F G D=>⟨s _ _ u C,x.mk C D,n b h C F G D⟩⟩
   ·exact .inr ⟨t,λh c=>⟨s _ _ u c,x.Z c,hh h c⟩⟩
theorem aHb {i:Nat}{o:Oper} (h:ops[i]? =some o) {K:Act->World->Prop}{Qx:Exit->Act->World->Prop}{a:Act}{w:World}{v:Value}
  (j:(Region.wanted o (yielded ops a.tmps)=true/\aBs P w v ((execOp a.eval o).run P w))\/(Region.wanted o (yielded ops a.tmps)=false/\v=undef)) (b: ∀w',fJ w w'->K (a.put o.dst v) w'):wpOp P ops Qx i K a w:=by
 unfold wpOp;simp only [h];rcases j with ⟨c,this⟩|⟨c,rfl⟩
 ·rw [if_pos c];refine .inl ?_;unfold Oper.wp;generalize (execOp a.eval o).run P w=r at this
  cases r with
  |ok n w'=>
   cases n<;>simp only [aBs]at this<;>simp only [Oper.upon]
   case value u=>obtain⟨rfl,rfl⟩:=this;exact b _ (fJ.refl _)
   case skip=>obtain⟨rfl,rfl⟩:=this;exact b _ (fJ.refl _)
   case enter f args=>
    obtain⟨rfl,m⟩:=this;exact m.mono λ_ _ ⟨q,s⟩=>by subst q;exact b _ s
  |halt _ w'=>simp only [aBs]at this
 ·rw [if_neg (by rw [c];exact Bool.false_ne_true)];exact b _ (fJ.refl _)
theorem sees_alloc (w:World)(o:Obj):fJ w (w.alloc o):=(Below.refl _ w).alloc (Nat.le_refl _) _
theorem aJy {i:Nat}{K:Mm->Act->World->Prop}{Qx:Exit->Act->World->Prop}{M:Mm}{a:Act}{w:World} (G: ∀i B,kd i= .mk B-> ∀w,I w->B<=w.heap.size) (z: ∀w w',I w->fJ w w'->I w') (b:I w) (c:nG M w) (h:xOp P I ops kd i K M a w):wpOp P ops Qx i (λa w=> ∃M,I w/\nG M w/\K M a w) a w:=by
 unfold xOp at h
 cases ho:ops[i]? with
 |none=>simp only [ho]at h
 |some _=>
  simp only [ho]at h
  cases y:kd i<;>simp only [y]at h
  ·obtain⟨v,C,x⟩:=h;unfold wpOp;simp only [ho];rcases C with ⟨u,D⟩|⟨u,rfl⟩
   ·rw [if_pos u];refine .inl ?_;unfold Oper.wp;rw [D w b];exact⟨M,b,c,x⟩
   ·rw [if_neg (by rw [u];exact Bool.false_ne_true)];exact⟨M,b,c,x⟩
  ·obtain⟨v,C,x⟩:=h;exact aHb ho (C.imp (λ⟨u,D⟩=>⟨u,D w b⟩) id) λw' j=>⟨M,z _ _ b j,c.Z j,x w' j⟩
  ·obtain⟨v,C,x⟩:=h;exact aHb ho (C.imp (λ⟨u,D⟩=>⟨u,D w (fJ.refl w)⟩) id) λw' j=>⟨M,z _ _ b j,c.Z j,x w' j⟩
  ·unfold wpOp;simp only [ho];rcases h with ⟨n,h⟩|⟨n,h⟩
   rotate_left
   ·rw [if_neg (by rw [n];exact Bool.false_ne_true)];exact⟨M,b,c,h _ (fJ.refl _)⟩
   rw [if_pos n];refine .inl ?_;unfold Oper.wp;rcases h with ⟨v,w',p,q,s⟩|⟨f,args,p,s⟩
   ·rw [p];exact⟨M,z _ _ b q,c.Z q,s _ (fJ.refl _)⟩
   ·rw [p];exact s.mono λe w' ⟨v,F,q,y⟩=>by subst F;exact⟨M,z _ _ b q,c.Z q,y _ (fJ.refl _)⟩
  ·unfold wpOp;simp only [ho];rcases h with ⟨n,h⟩|⟨n,h⟩
   rotate_left
   ·rw [if_neg (by rw [n];exact Bool.false_ne_true)];exact⟨M,b,c,h _ (fJ.refl _)⟩
   rw [if_pos n];refine .inl ?_;unfold Oper.wp;rcases h with ⟨v,w',p,q,E,t,s⟩|⟨w',p,q,E,t,s⟩|⟨f,args,p,s⟩
   ·rw [p];exact⟨E,q,t,s _ (fJ.refl _)⟩
   ·rw [p];exact⟨E,q,t,s _ (fJ.refl _)⟩
   ·rw [p];exact s.mono λe w' ⟨v,F,q,E,t,y⟩=>by subst F;exact⟨E,q,t,y _ (fJ.refl _)⟩
  ·unfold wpOp;simp only [ho];rcases h with ⟨n,_,_,cs,T,rfl,p,s⟩|⟨n,h⟩
   ·rw [if_pos n];refine .inl ?_;unfold Oper.wp;rw [p w b];have j:=sees_alloc w (.cells cs.toArray T);exact⟨_,z _ _ b j,c.mk j (Al.mk' w cs T).blk,s _ _ j (G i _ y w b) c.new (Al.mk' w cs T).blk⟩
   ·rw [if_neg (by rw [n];exact Bool.false_ne_true)];exact⟨M,b,c,h _ (fJ.refl _)⟩

theorem aDd.of_same {o:Oper}{v:Value}{a a':Act}(b:aDd P I ops o v a)(c:execOp a'.eval o=execOp a.eval o)
    (e:Region.wanted o (yielded ops a'.tmps)=Region.wanted o (yielded ops a.tmps)):aDd P I ops o v a':=by
 unfold aDd at *;rw [c,e];exact b
theorem aKf.of_same {o:Oper}{v:Value}{a a':Act}(b:aKf P I ops o v a)(c:execOp a'.eval o=execOp a.eval o)
    (e:Region.wanted o (yielded ops a'.tmps)=Region.wanted o (yielded ops a.tmps)):aKf P I ops o v a':=by
 unfold aKf at *;rw [c,e];exact b
def aHv (ops:Array Oper)(kd:Nat->Kd)(i j:Nat):Bool:=
 match ops[i]?,ops[j]? with
 |some a,some b=>a.apart ops b&&b.apart ops a&&((kd i).isPure||(kd j).isPure||(kd i).isFcall||((kd i).isRead&&((kd j).isFcall||(kd j).isRead||(kd j).isNew||(kd j).isMk))||((kd i).isMk&&(kd j).isMk))
 |_,_=>false

theorem xOp_put {i:Nat}{s z:Oper} (hi:ops[i]? =some s) (G:s.apart ops z=true) (H: ∀cs b,s.op≠ .select cs b) {u:Value}
  {K:Mm->Act->World->Prop}{M:Mm}{a:Act}{w:World} (h:xOp P I ops kd i (λM a' w'=>K M (a'.put z.dst u) w') M a w):xOp P I ops kd i K M (a.put z.dst u) w:=by
 obtain⟨o,n,p⟩:=Oper.apart_spec G;have y:execOp (a.put z.dst u).eval s=execOp a.eval s:=execOp_put s H a z.dst u p;have B:Region.wanted s (yielded ops (a.put z.dst u).tmps)=Region.wanted s (yielded ops a.tmps):=wanted_put s a z.dst u p;have q: ∀v,(a.put z.dst u).put s.dst v=(a.put s.dst v).put z.dst u:=λv=>(Act.put_comm a v u n).symm
 unfold xOp at *
 simp only [hi]at h⊢
 cases E:kd i<;>simp only [E]at h⊢
 ·obtain⟨v,C,D⟩:=h;exact⟨v,C.of_same y B,by rw [q];exact D⟩
 ·obtain⟨v,C,D⟩:=h;exact⟨v,C.of_same y B,λw' j=>by rw [q];exact D w' j⟩
 ·obtain⟨v,C,D⟩:=h;exact⟨v,C.of_same y B,λw' j=>by rw [q];exact D w' j⟩
 ·rw [y,B];rcases h with ⟨t,h⟩|⟨t,h⟩
  rotate_left
  ·exact .inr ⟨t,λc j=>by rw [q];exact h c j⟩
  refine .inl ⟨t,?_⟩;rcases h with ⟨v,w',o,p,n⟩|⟨f,args,o,n⟩
  ·exact .inl ⟨v,w',o,p,λc j=>by rw [q];exact n c j⟩
  ·exact .inr ⟨f,args,o,n.mono λe w' ⟨v,y,p,E⟩=>⟨v,y,p,λc j=>by rw [q];exact E c j⟩⟩
 ·rw [y,B];rcases h with ⟨t,h⟩|⟨t,h⟩
  rotate_left
  ·exact .inr ⟨t,λc j=>by rw [q];exact h c j⟩
  refine .inl ⟨t,?_⟩;rcases h with ⟨v,w',o,p,F,x,n⟩|⟨w',o,p,F,x,n⟩|⟨f,args,o,n⟩
  ·exact .inl ⟨v,w',o,p,F,x,λc j=>by rw [q];exact n c j⟩
  ·exact .inr (.inl ⟨w',o,p,F,x,λc j=>by rw [q];exact n c j⟩)
  ·exact .inr (.inr ⟨f,args,o,n.mono λe w' ⟨v,y,p,F,x,E⟩=>⟨v,y,p,F,x,λc j=>by rw [q];exact E c j⟩⟩)
 ·rw [y,B];rcases h with ⟨t,A,m,cs,T,J,o,n⟩|⟨t,h⟩
  ·exact .inl ⟨t,A,m,cs,T,J,o,λb c L O R S=>by rw [q];exact n b c L O R S⟩
  ·exact .inr ⟨t,λc j=>by rw [q];exact h c j⟩
theorem aGh {i:Nat}{s z:Oper} (hi:ops[i]? =some s) (G:s.apart ops z=true) (H: ∀cs b,s.op≠ .select cs b) {u:Value}
  {K:Mm->Act->World->Prop}{M:Mm}{a:Act}{w:World} (h:xOp P I ops kd i K M (a.put z.dst u) w):xOp P I ops kd i (λM a' w'=>K M (a'.put z.dst u) w') M a w:=by
 obtain⟨o,n,p⟩:=Oper.apart_spec G;have y:execOp (a.put z.dst u).eval s=execOp a.eval s:=execOp_put s H a z.dst u p;have B:Region.wanted s (yielded ops (a.put z.dst u).tmps)=Region.wanted s (yielded ops a.tmps):=wanted_put s a z.dst u p;have q: ∀v,(a.put z.dst u).put s.dst v=(a.put s.dst v).put z.dst u:=λv=>(Act.put_comm a v u n).symm
 unfold xOp at *
 simp only [hi]at h⊢
 cases E:kd i<;>simp only [E]at h⊢
 ·obtain⟨v,C,D⟩:=h;exact⟨v,C.of_same y.symm B.symm,by rw [<-q];exact D⟩
 ·obtain⟨v,C,D⟩:=h;exact⟨v,C.of_same y.symm B.symm,λw' j=>by rw [<-q];exact D w' j⟩
 ·obtain⟨v,C,D⟩:=h;exact⟨v,C.of_same y.symm B.symm,λw' j=>by rw [<-q];exact D w' j⟩
 ·rw [y,B]at h;rcases h with ⟨t,h⟩|⟨t,h⟩
  rotate_left
  ·exact .inr ⟨t,λc j=>by rw [<-q];exact h c j⟩
  refine .inl ⟨t,?_⟩;rcases h with ⟨v,w',o,p,n⟩|⟨f,args,o,n⟩
  ·exact .inl ⟨v,w',o,p,λc j=>by rw [<-q];exact n c j⟩
  ·exact .inr ⟨f,args,o,n.mono λe w' ⟨v,y,p,E⟩=>⟨v,y,p,λc j=>by rw [<-q];exact E c j⟩⟩
 ·rw [y,B]at h;rcases h with ⟨t,h⟩|⟨t,h⟩
  rotate_left
  ·exact .inr ⟨t,λc j=>by rw [<-q];exact h c j⟩
  refine .inl ⟨t,?_⟩;rcases h with ⟨v,w',o,p,F,x,n⟩|⟨w',o,p,F,x,n⟩|⟨f,args,o,n⟩
  ·exact .inl ⟨v,w',o,p,F,x,λc j=>by rw [<-q];exact n c j⟩
  ·exact .inr (.inl ⟨w',o,p,F,x,λc j=>by rw [<-q];exact n c j⟩)
  ·exact .inr (.inr ⟨f,args,o,n.mono λe w' ⟨v,y,p,F,x,E⟩=>⟨v,y,p,F,x,λc j=>by rw [<-q];exact E c j⟩⟩)
 ·rw [y,B]at h;rcases h with ⟨t,A,m,cs,T,J,o,n⟩|⟨t,h⟩
  ·exact .inl ⟨t,A,m,cs,T,J,o,λb c L O R S=>by rw [<-q];exact n b c L O R S⟩
  ·exact .inr ⟨t,λc j=>by rw [<-q];exact h c j⟩

theorem xOp_some {i:Nat}{t:Oper} (hi:ops[i]? =some t) {K:Mm->Act->World->Prop}{M:Mm}{a:Act}{w:World} (x: ∀i B,kd i= .mk B-> ∀w,I w->B<=w.heap.size) (s: ∀w w',I w->fJ w w'->I w') (c:I w) (y:nG M w) (h:xOp P I ops kd i K M a w): ∃v w' q,I w'/\K q (a.put t.dst v) w':=by
 unfold xOp at h;simp only [hi]at h
 cases n:kd i<;>simp only [n]at h
 ·obtain⟨v,_,o⟩:=h;exact⟨v,w,_,c,o⟩
 ·obtain⟨v,_,o⟩:=h;exact⟨v,w,_,c,o w (fJ.refl w)⟩
 ·obtain⟨v,_,o⟩:=h;exact⟨v,w,_,c,o w (fJ.refl w)⟩
 ·rcases h with h|⟨_,h⟩
  rotate_left
  ·exact⟨_,w,_,c,h _ (fJ.refl _)⟩
  rcases h.2 with ⟨v,w',_,j,b⟩|⟨f,args,_,b⟩
  ·exact⟨v,w',_,s _ _ c j,b _ (fJ.refl _)⟩
  ·obtain⟨e,w',z,⟨v,_,j,n⟩,_⟩:=b [];exact⟨v,w',_,s _ _ c j,n _ (fJ.refl _)⟩
 ·rcases h with h|⟨_,h⟩
  rotate_left
  ·exact⟨_,w,_,c,h _ (fJ.refl _)⟩
  rcases h.2 with ⟨v,w',_,j,q,p,b⟩|⟨w',_,j,q,p,b⟩|⟨f,args,_,b⟩
  ·exact⟨v,w',_,j,b _ (fJ.refl _)⟩
  ·exact⟨_,w',_,j,b _ (fJ.refl _)⟩
  ·obtain⟨e,w',z,⟨v,_,j,q,p,n⟩,_⟩:=b [];exact⟨v,w',_,j,n _ (fJ.refl _)⟩
 ·rcases h with ⟨_,_,_,cs,T,rfl,_,b⟩|⟨_,h⟩
  ·have u:=sees_alloc w (.cells cs.toArray T);exact⟨_,_,_,s _ _ c u,b _ _ u (x i _ n w c) y.new (Al.mk' w cs T).blk⟩
  ·exact⟨_,w,_,c,h _ (fJ.refl _)⟩
theorem aOo {j:Nat}{z:Oper} (L:ops[j]? =some z) (B:kd j≠ .pure) {K G:Mm->Act->World->Prop}{M:Mm}{a:Act}{w:World}
  (h:xOp P I ops kd j K M a w) (n: ∀u M C w',(kd j= .fcall\/kd j= .read\/kd j= .new\/(kd j).isMk=true->fJ w C)->(∀c,fJ C c->K M (a.put z.dst u) c)->fJ C w'->G M (a.put z.dst u) w'):xOp P I ops kd j G M a w:=by
 unfold xOp at *
 simp only [L]at h⊢
 cases x:kd j<;>simp only [x]at h⊢ <;>simp only [x]at n
 ·exact absurd x B
 ·obtain⟨v,D,E⟩:=h;exact⟨v,D,λw' i=>n v _ w w' (λ_=>fJ.refl w) E i⟩
 ·obtain⟨v,D,E⟩:=h;exact⟨v,D,λw' i=>n v _ w w' (λ_=>fJ.refl w) E i⟩
 ·rcases h with ⟨o,h⟩|⟨o,h⟩
  rotate_left
  ·exact .inr ⟨o,λw' i=>n _ _ w w' (λ_=>fJ.refl w) h i⟩
  refine .inl ⟨o,?_⟩;rcases h with ⟨v,w',p,q,s⟩|⟨f,args,p,s⟩
  ·exact .inl ⟨v,w',p,q,λc i=>n v _ w' c (λ_=>q) s i⟩
  ·exact .inr ⟨f,args,p,s.mono λe w' ⟨v,F,q,x⟩=>⟨v,F,q,λc i=>n v _ w' c (λ_=>q) x i⟩⟩
 ·rcases h with ⟨o,h⟩|⟨o,h⟩
  rotate_left
  ·exact .inr ⟨o,λw' i=>n _ _ w w' (λ_=>fJ.refl w) h i⟩
  refine .inl ⟨o,?_⟩;rcases h with ⟨v,w',p,q,y,t,s⟩|⟨w',p,q,y,t,s⟩|⟨f,args,p,s⟩
  ·exact .inl ⟨v,w',p,q,y,t,λc i=>n v _ w' c (λh=>by simp [Kd.isMk]at h) s i⟩
  ·exact .inr (.inl ⟨w',p,q,y,t,λc i=>n _ _ w' c (λh=>by simp [Kd.isMk]at h) s i⟩)
  ·exact .inr (.inr ⟨f,args,p,s.mono λe w' ⟨v,F,q,y,t,x⟩=>⟨v,F,q,y,t,λc i=>n v _ w' c (λh=>by simp [Kd.isMk]at h) x i⟩⟩)
 ·rcases h with ⟨o,A,m,cs,T,O,p,s⟩|⟨o,h⟩
  ·exact .inl ⟨o,A,m,cs,T,O,p,λb c H R S X=>n _ _ c c (λ_=>H) (λY J=>s b Y (H.trans J) R S (X.Z J)) (fJ.refl _)⟩
  ·exact .inr ⟨o,λw' i=>n _ _ w w' (λ_=>fJ.refl w) h i⟩

theorem xSwap {i j:Nat} (hB: ∀i B,kd i= .mk B-> ∀w,I w->B<=w.heap.size) (hm:aHv ops kd i j=true) (hs: ∀(k:Nat) (o:Oper) cs b,ops[k]? =some o->o.op≠ .select cs b) (hI: ∀w w',I w->fJ w w'->I w') {K:Mm->Act->World->Prop}{M:Mm}{a:Act}{w:World} (hw:I w) (hM:nG M w)
  (h:xOp P I ops kd i (xOp P I ops kd j K) M a w):xOp P I ops kd j (xOp P I ops kd i K) M a w:=by
 unfold aHv at hm
 cases hi:ops[i]? with
 |none=>simp [hi]at hm
 |some C=>
  cases hj:ops[j]? with
  |none=>simp [hi,hj]at hm
  |some p=>
   simp only [hi,hj,Bool.and_eq_true,Bool.or_eq_true]at hm;obtain⟨⟨ab,D⟩,hk⟩:=hm;have ac:=λcs b=>hs i C cs b hi
   have E:=λcs b=>hs j p cs b hj
   obtain⟨_,i2,i3⟩:=Oper.apart_spec ab;obtain⟨_,_,j3⟩:=Oper.apart_spec D;have F: ∀{u:Value}{a:Act},execOp (a.put p.dst u).eval C=execOp a.eval C:=execOp_put _ ac _ _ _ i3;have G: ∀{u:Value}{a:Act},Region.wanted C (yielded ops (a.put p.dst u).tmps)=Region.wanted C (yielded ops a.tmps):=wanted_put _ _ _ _ i3;have T: ∀{u:Value}{a:Act},execOp (a.put C.dst u).eval p=execOp a.eval p:=execOp_put _ E _ _ _ j3;have X: ∀{u:Value}{a:Act},Region.wanted p (yielded ops (a.put C.dst u).tmps)=Region.wanted p (yielded ops a.tmps):=wanted_put _ _ _ _ j3;have h0:=h
   by_cases aq:(kd j).isPure=true
   ·have f:kd j= .pure:=by cases h':kd j<;>simp_all [Kd.isPure]
    obtain⟨v0,_,_,_,h1⟩:=xOp_some hi hB hI hw hM h;unfold xOp at h1;simp only [hj,f]at h1;obtain⟨u,H,_⟩:=h1;have ad:aDd P I ops p u a:=H.of_same T.symm X.symm;have hu: ∀{M':Mm}{a':Act}{w':World},Region.wanted p (yielded ops a'.tmps)=Region.wanted p (yielded ops a.tmps)->execOp a'.eval p=execOp a.eval p->xOp P I ops kd j K M' a' w'->K M' (a'.put p.dst u) w':=by
     intro M' a' w' av aw m;unfold xOp at m;simp only [hj,f]at m;obtain⟨u',ax,ay⟩:=m;have:u'=u:=by
      have az:aDd P I ops p u' a:=ax.of_same aw.symm av.symm;rcases az with ⟨t,J⟩|⟨t,J⟩<;>rcases ad with ⟨r1,r2⟩|⟨r1,r2⟩
      ·have:=(J w hw).symm.trans (r2 w hw);injection this with this;injection this
      ·rw [t]at r1;cases r1
      ·rw [t]at r1;cases r1
      ·rw [J,r2]
     rw [<-this];exact ay
    have L:xOp P I ops kd i (λM a' w'=>K M (a'.put p.dst u) w') M a w:=aKq (λo M v w' ho m=>by rw [hi]at ho;cases ho;exact hu X T m) h
    conv=>unfold xOp
    simp only [hj,f];exact⟨u,ad,xOp_put hi ab ac L⟩
   have O:kd j≠ .pure:=λe=>aq (by rw [e];rfl)
   by_cases bw:(kd i).isPure=true
   ·have c:kd i= .pure:=by cases h':kd i<;>simp_all [Kd.isPure]
    unfold xOp at h;simp only [hi,c]at h;obtain⟨v,H,hK⟩:=h;refine aOo hj O (aGh hj D E hK) λu M w1 w' _ L Y=>?_
    unfold xOp;simp only [hi,c];exact⟨v,H.of_same F G,L w' Y⟩
   by_cases bx:(kd i).isFcall=true
   ·have c:kd i= .fcall:=by cases h':kd i<;>simp_all [Kd.isFcall]
    unfold xOp at h;simp only [hi,c]at h;obtain⟨v,H,hK⟩:=h;refine aOo hj O (aGh hj D E (hK w (fJ.refl w))) λu M w1 w' _ L Y=>?_
    unfold xOp;simp only [hi,c];exact⟨v,H.of_same F G,λs h4=>L s (Y.trans h4)⟩
   by_cases bz:(kd i).isMk=true
   ·have b0:(kd j).isMk=true:=by cases h':kd i<;>cases h'':kd j<;>simp_all [Kd.isPure,Kd.isFcall,Kd.isRead,Kd.isNew,Kd.isMk]
    obtain⟨_,c⟩: ∃B,kd i= .mk B:=by cases h':kd i<;>simp_all [Kd.isMk]
    obtain⟨_,f⟩: ∃B,kd j= .mk B:=by cases h':kd j<;>simp_all [Kd.isMk]
    have hc: ∀v u,(a.put p.dst u).put C.dst v=(a.put C.dst v).put p.dst u:=λv u=>(Act.put_comm a v u i2).symm
    unfold xOp at h;simp only [hi,c]at h;unfold xOp;simp only [hj,f];rcases h with ⟨y,Ai,mi,ci,Ti,rfl,ri,Ki⟩|⟨y,Ki⟩
    ·have a7:=sees_alloc w (.cells ci.toArray Ti);have m:=Ki _ _ a7 (hB i _ c w hw) hM.new (Al.mk' w ci Ti).blk;unfold xOp at m;simp only [hj,f,X,T]at m;rcases m with ⟨n,Aj,mj,cj,Tj,_,rj,_⟩|⟨n,_⟩
     ·refine .inl ⟨n,Ai,mj,cj,Tj,rfl,rj,λb R t J q0 q3=>?_⟩;simp only [hi,c,G,F];refine .inl ⟨y,_,mi,ci,Ti,rfl,ri,λb' s A q5 q7 q6=>?_⟩;have m:=Ki b' s (t.trans A) q5 (λh=>q7 (.inr h)) q6;unfold xOp at m;simp only [hj,f,X,T]at m;rcases m with ⟨_,_,_,_,_,bg,bh,S⟩|⟨z,_⟩
      ·have aj:=hI _ _ hw (t.trans A);have e:=(bh s aj).symm.trans (rj s aj)
       injection e with e1 e2
       injection e1 with e1
       obtain rfl:=Mk.inj e1;obtain⟨rfl,rfl⟩:=alloc_inj e2
       cases bg
       rw [hc];have hk:=S b s (fJ.refl s) J (λh=>h.elim (λh=>q7 (.inl h.symm)) q0) (q3.Z A);have hE:(λx=>x=b\/x=b'\/Ai x)=(λx=>x=b'\/x=b\/Ai x):=funext λx=>propext ⟨λh=>h.elim (λh=> .inr (.inl h)) λh=>h.elim .inl λh=> .inr (.inr h),λh=>h.elim (λh=> .inr (.inl h)) λh=>h.elim .inl λh=> .inr (.inr h)⟩
       rw [hE]at hk;exact hk
      ·rw [n]at z;cases z
     ·refine .inr ⟨n,λR t=>?_⟩;simp only [hi,c,G,F];refine .inl ⟨y,Ai,mi,ci,Ti,rfl,ri,λb' s A q5 q7 q6=>?_⟩;have m:=Ki b' s (t.trans A) q5 q7 q6;unfold xOp at m;simp only [hj,f,X,T]at m;rcases m with ⟨z,_⟩|⟨_,S⟩
      ·rw [n]at z;cases z
      ·rw [hc];exact S s (fJ.refl s)
    ·have m:=Ki w (fJ.refl w);unfold xOp at m;simp only [hj,f,X,T]at m;rcases m with ⟨n,Aj,mj,cj,Tj,rfl,rj,S⟩|⟨n,S⟩
     ·refine .inl ⟨n,Aj,mj,cj,Tj,rfl,rj,λb R t J q0 q3=>?_⟩;simp only [hi,c,G,F];exact .inr ⟨y,λs A=>by rw [hc];exact S b s (t.trans A) J q0 (q3.Z A)⟩
     ·refine .inr ⟨n,λR t=>?_⟩;simp only [hi,c,G,F];exact .inr ⟨y,λs A=>by rw [hc];exact S s (t.trans A)⟩
   have c:kd i= .read:=by cases h':kd i<;>simp_all [Kd.isPure,Kd.isFcall,Kd.isRead,Kd.isNew,Kd.isMk]
   have f:kd j= .fcall\/kd j= .read\/kd j= .new\/(kd j).isMk=true:=by cases h':kd j<;>simp_all [Kd.isPure,Kd.isFcall,Kd.isRead,Kd.isNew,Kd.isMk]
   unfold xOp at h;simp only [hi,c]at h;obtain⟨v,H,hK⟩:=h;refine aOo hj O (aGh hj D E (hK w (fJ.refl w))) λu M w1 w' q L Y=>?_
   unfold xOp;simp only [hi,c];exact⟨v,(H.Z ((q f).trans Y)).of_same F G,λs h4=>L s (Y.trans h4)⟩

theorem aFu (e: ∀i B,kd i= .mk B-> ∀w,I w->B<=w.heap.size)(f: ∀(k:Nat) (o:Oper) cs b,ops[k]? =some o->o.op≠ .select cs b)(c: ∀w w',I w->fJ w w'->I w')(i:Nat)(post:List Nat): ∀(pre:List Nat) (M:Mm) (a:Act) (w:World),I w->nG M w->(∀p∈pre,aHv ops kd p i=true)->
  bW P I ops kd Q (pre++i::post) M a w->bW P I ops kd Q (i::(pre++post)) M a w
 | [],_,_,_,_,_,_,h=>h
 |p::pre,M,a,w,j,m,hm,h=>by
  have n:xOp P I ops kd p (λM a w=>I w/\nG M w/\bW P I ops kd Q (pre++i::post) M a w) M a w:=aWt c j m h;have s:xOp P I ops kd p (bW P I ops kd Q (i::(pre++post))) M a w:=aLk (λM a w h=>aFu e f c i post pre M a w h.1 h.2.1 (λq t=>hm q (List.mem_cons_of_mem _ t)) h.2.2) n;exact xSwap e (hm p List.mem_cons_self) f c j m s

def waits (a:Region.Mode)(ops:Array Oper)(q p:Nat):Bool:=((ops[q]?).map λo=>o.after.toList.any λe=>Region.binds a e&&e.on==p).getD false
def aXb (b:Region.Mode)(ops:Array Oper)(q:Nat):Nat:=((ops[q]?).map λo=>o.after.toList.foldl (λa e=>if Region.binds b e=true then a|||1<<<e.on else a) 0).getD 0
def wclo (b:Region.Mode)(ops:Array Oper):Nat->Nat->Nat
 |0,a=>a
 |n+1,a=>wclo b ops n (if a.testBit n=true then a|||aXb b ops n else a)
def aBt (a:Region.Mode)(ops:Array Oper)(_ q p:Nat):Bool:=(wclo a ops q (aXb a ops q)).testBit p
def Dn (b:Region.Mode)(ops:Array Oper)(a:Array Bool):Prop:= ∀q p,a.getD q false=true->waits b ops q p=true->a.getD p true=true
theorem aHh {c:Region.Mode}{ops:Array Oper}{q p:Nat} (h:(aXb c ops q).testBit p=true):waits c ops q p=true:=by
 unfold aXb at h;unfold waits
 cases ho:ops[q]? with
 |none=>rw [ho]at h;simp at h
 |some _=>
  rw [ho]at h;simp only [Option.map_some,Option.getD_some]at h⊢;have f: ∀(l:List Edge) (a:Nat),(l.foldl (λa e=>if Region.binds c e=true then a|||1<<<e.on else a) a).testBit p=true->a.testBit p=true\/(l.any λe=>Region.binds c e&&e.on==p)=true:=by
   intro l
   induction l with
   |nil=>intro a h;exact .inl h
   |cons e l i=>
    intro a h;rw [List.foldl_cons]at h;rw [List.any_cons,Bool.or_eq_true];rcases i _ h with b|b
    ·split at b
     ·rename_i j;rw [Nat.testBit_or,Bool.or_eq_true]at b;rcases b with b|b
      ·exact .inl b
      ·refine .inr (.inl ?_);rw [Nat.one_shiftLeft,Nat.testBit_two_pow]at b;rw [j,Bool.true_and,beq_iff_eq];exact of_decide_eq_true b
     ·exact .inl b
    ·exact .inr (.inr b)
  rcases f _ _ h with b|b
  ·simp at b
  ·exact b
theorem waits_lt {a:Region.Mode}{ops:Array Oper}{q p:Nat}(h:waits a ops q p=true):q<ops.size:=by
 unfold waits at h
 cases ho:ops[q]? with
 |none=>rw [ho]at h;simp at h
 |some _=>exact(Array.getElem?_eq_some_iff.1 ho).1
def Wt (b:Region.Mode)(ops:Array Oper)(q p:Nat):Prop:= ∀a:Array Bool,a.size=ops.size->Dn b ops a->a.getD q false=true->a.getD p true=true
theorem aGx {e:Region.Mode}{ops:Array Oper}{n q p:Nat} (h:aBt e ops n q p=true):waits e ops q p=true\/ ∃m,m<ops.size/\waits e ops q m=true/\Wt e ops m p:=by
 have lt: ∀{b:Array Bool}{m:Nat},b.size=ops.size->m<ops.size->b.getD m true=true->b.getD m false=true:=by
  intro b m f hm s;rw [Array.getD_eq_getD_getElem?,Array.getElem?_eq_getElem (by rw [f];exact hm)]at s⊢;simpa using s
 have t: ∀(k a:Nat),(∀p,a.testBit p=true->waits e ops q p=true\/ ∃m,m<ops.size/\waits e ops q m=true/\Wt e ops m p)-> ∀p,(wclo e ops k a).testBit p=true->waits e ops q p=true\/ ∃m,m<ops.size/\waits e ops q m=true/\Wt e ops m p:=by
  intro k
  induction k with
  |zero=>intro a i;exact i
  |succ k A=>
   intro a i p z;rw [wclo]at z;refine A _ (λj c=>?_) p z;split at c
   ·rename_i B;rw [Nat.testBit_or,Bool.or_eq_true]at c;rcases c with c|c
    ·exact i j c
    ·have u:=aHh c;have o:=waits_lt u;rcases i k B with x|⟨m,x,C,s⟩
     ·exact .inr ⟨k,o,x,λb f hd y=>hd k j y u⟩
     ·exact .inr ⟨m,x,C,λb f hd y=>hd k j (lt f o (s b f hd y)) u⟩
   ·exact i j c
 exact t q _ (λj c=> .inl (aHh c)) p h
def pairB (a:Region.Mode)(ops:Array Oper)(kd:Nat->Kd):List Nat->Bool
 | []=>true
 |p::l=>(l.all λq=> !waits a ops p q&&(aBt a ops 5 q p||aHv ops kd p q))&&pairB a ops kd l
def edgesB (a:Region.Mode)(ops:Array Oper):Bool:=
 (List.range ops.size).all λi=>((ops[i]?).map λo=>o.after.all λe=> !Region.binds a e||(decide (e.on<ops.size)&&e.on !=i)).getD true

theorem qN {b:Region.Mode} (i:Nat) (post:List Nat): ∀(pre:List Nat),pairB b ops kd (pre++i::post)=true->
  pairB b ops kd (pre++post)=true/\ ∀p∈pre,aBt b ops 5 i p=true\/aHv ops kd p i=true
 | [],h=>by
  simp only [List.nil_append,pairB,Bool.and_eq_true]at h;exact⟨h.2,by simp⟩
 |p::pre,h=>by
  simp only [List.cons_append,pairB,Bool.and_eq_true]at h;obtain⟨c,e⟩:=h;obtain⟨f,j⟩:=qN i post pre e;rw [List.all_eq_true]at c;refine⟨?_,?_⟩
  ·simp only [List.cons_append,pairB,Bool.and_eq_true];refine⟨List.all_eq_true.2 λq a=>c q ?_,f⟩;rcases mA.1 a with h|h
   ·exact List.mem_append_left _ h
   ·exact List.mem_append_right _ (List.mem_cons_of_mem _ h)
  ·intro q a;rcases List.mem_cons.1 a with rfl|a
   ·have:=c i (List.mem_append_right _ List.mem_cons_self);simp only [Bool.and_eq_true,Bool.or_eq_true]at this;exact this.2
   ·exact j q a

theorem aCy {F:Region.Mode}{Qx:Exit->Act->World->Prop} (hB: ∀i B,kd i= .mk B-> ∀w,I w->B<=w.heap.size) (hs: ∀(k:Nat) (o:Oper) cs b,ops[k]? =some o->o.op≠ .select cs b) (hI: ∀w w',I w->fJ w w'->I w') (ad:edgesB F ops=true) (hQ: ∀M a w,Q M a w->Qx .normal a w):
  ∀(s:Nat) (c:Array Bool) (l:List Nat) (M:Mm) (a:Act) (w:World),c.size=ops.size->l.Nodup->(∀i,i∈l↔i<ops.size/\c.getD i true=false)->pairB F ops kd l=true->l.length<=s->I w->nG M w->Dn F ops c->
   bW P I ops kd Q l M a w->wpAny P F ops Qx s c a w:=by
 have y: ∀{c:Array Bool}{i:Nat},c.size=ops.size->i∈Region.ready F ops c->i<ops.size/\c.getD i true=false:=by
  intro c i f hi;obtain⟨h0,o,R,_⟩:=mem_ready.1 hi;exact⟨(Array.getElem?_eq_some_iff.1 R).1,h0⟩
 intro s
 induction s with
 |zero=>
  intro c l M a w f _ J _ G _ _ _ h;have:l=[]:=List.eq_nil_of_length_eq_zero (by omega);subst this;refine⟨?_,hQ _ _ _ h⟩;apply List.eq_nil_iff_forall_not_mem.2;intro i hi;have:=(J i).2 (y f hi);simp at this
 |succ s ih=>
  intro c l M a w f ae J hp G S hM T h;refine⟨λhr=>?_,λi hi=>?_⟩
  ·cases l with
   |nil=>exact hQ _ _ _ h
   |cons p l=>
    exfalso;have j:=(J p).1 List.mem_cons_self;have:p∈Region.ready F ops c:=by
     refine mem_ready.2 ⟨j.2,ops[p],Array.getElem?_eq_getElem j.1,λe D x=>?_⟩;have n:=(List.all_eq_true.1 ad) p (List.mem_range.2 j.1);rw [Array.getElem?_eq_getElem j.1]at n;simp only [Option.map_some,Option.getD_some]at n;have n:=Array.all_eq_true_iff_forall_mem.1 n e D;rw [x]at n;simp only [Bool.not_true,Bool.false_or,Bool.and_eq_true,decide_eq_true_eq,bne_iff_ne,ne_eq]at n;obtain⟨u,X⟩:=n;have t:e.on<c.size:=by rw [f];exact u
     cases hc:c.getD e.on true with
     |true=>
      rw [Array.getD_eq_getD_getElem?,Array.getElem?_eq_getElem t]at hc⊢;simpa using hc
     |false=>
      exfalso;have hm:=(J e.on).2 ⟨u,hc⟩;rcases List.mem_cons.1 hm with hm|hm
      ·exact X hm
      ·simp only [pairB,Bool.and_eq_true]at hp;have:=List.all_eq_true.1 hp.1 e.on hm;simp only [Bool.and_eq_true,Bool.not_eq_true']at this;have L:waits F ops p e.on=true:=by
        unfold waits;rw [Array.getElem?_eq_getElem j.1];simp only [Option.map_some,Option.getD_some];exact List.any_eq_true.2 ⟨e,Array.mem_toList_iff.2 D,by simp [x]⟩
       rw [L]at this;exact Bool.noConfusion this.1
    rw [hr]at this
    cases this
  ·have j:=(J i).2 (y f hi);obtain⟨pre,post,rfl⟩:=List.append_of_mem j;obtain⟨ah,ai⟩:=qN i post pre hp;have Y: ∀p∈pre,aHv ops kd p i=true:=by
    intro p aa;rcases ai p aa with L|hm
    ·exfalso;have aj:=((J p).1 (List.mem_append_left _ aa));have ab: ∀m,waits F ops i m=true->c.getD m true=true:=by
      intro m E;obtain⟨_,o,R,z⟩:=mem_ready.1 hi;unfold waits at E;rw [R]at E;simp only [Option.map_some,Option.getD_some]at E;obtain⟨e,D,x⟩:=List.any_eq_true.1 E
      replace D:=Array.mem_toList_iff.1 D
      simp only [Bool.and_eq_true,beq_iff_eq]at x;have u:=z e D x.1;rw [x.2]at u
      by_cases O:m<c.size
      ·rw [Array.getD_eq_getD_getElem?,Array.getElem?_eq_getElem O]at u⊢;simpa using u
      ·rw [Array.getD_eq_getD_getElem?,Array.getElem?_eq_none (by omega)];rfl
     have:c.getD p true=true:=by
      replace L:=aGx L
      rcases L with L|⟨m,hm,u,X⟩
      ·exact ab p L
      ·have h3:=ab m u;have h4:c.getD m false=true:=by
        rw [Array.getD_eq_getD_getElem?,Array.getElem?_eq_getElem (by rw [f];exact hm)]at h3⊢;simpa using h3
       exact X _ f T h4
     rw [aj.2]at this;cases this
    ·exact hm
   have hx:=aFu hB hs hI i post pre M a w S hM Y h;have hx:=aJy (Qx:=Qx) hB hI S hM hx;refine wpOp_mono (λa w ⟨M,h⟩=>?_) hx;have H:(pre++post).Nodup/\i∉pre++post:=by
    have:=ae;rw [List.nodup_append]at this;obtain⟨n1,n2,n3⟩:=this;rw [List.nodup_cons]at n2;refine⟨List.nodup_append.2 ⟨n1,n2.2,λa ha b x=>n3 a ha b (List.mem_cons_of_mem _ x)⟩,λhm=>?_⟩;rcases mA.1 hm with hm|hm
    ·exact n3 i hm i List.mem_cons_self rfl
    ·exact n2.1 hm
   refine ih _ (pre++post) M a w (by simpa using f) H.1 (λk=>?_) ah (by simp at G⊢;omega) h.1 h.2.1 ?_ h.2.2
   rotate_left
   ·intro q p hq A
    by_cases ac:q=i
    ·subst ac;obtain⟨_,o,R,z⟩:=mem_ready.1 hi;unfold waits at A;rw [R]at A;simp only [Option.map_some,Option.getD_some]at A;obtain⟨e,D,x⟩:=List.any_eq_true.1 A
     replace D:=Array.mem_toList_iff.1 D
     simp only [Bool.and_eq_true,beq_iff_eq]at x;have u:=z e D x.1;rw [x.2]at u
     by_cases C:p=q
     ·subst C;have t:p<c.size:=by rw [f];exact(y f hi).1
      simp [Array.getD_eq_getD_getElem?,t]
     ·rw [getD_set_ne true (Ne.symm C)]
      by_cases O:p<c.size
      ·rw [Array.getD_eq_getD_getElem?,Array.getElem?_eq_getElem O]at u⊢;simpa using u
      ·rw [Array.getD_eq_getD_getElem?,Array.getElem?_eq_none (by omega)];rfl
    ·rw [getD_set_ne false (Ne.symm ac)]at hq;have u:=T q p hq A
     by_cases C:p=i
     ·subst C;have t:p<c.size:=by rw [f];exact(y f hi).1
      simp [Array.getD_eq_getD_getElem?,t]
     ·rw [getD_set_ne true (Ne.symm C)];exact u
   by_cases hk:k=i
   ·subst hk;have t:k<c.size:=by rw [f];exact(y f hi).1
    constructor
    ·intro hm;exact absurd hm H.2
    ·rintro⟨_,X⟩;simp [Array.getD_eq_getD_getElem?,t]at X
   ·rw [getD_set_ne true (Ne.symm hk),<-J k];simp [hk]

theorem aDj {h:Region.Mode}{a:Array Bool}{p:Nat}{l:List Nat}(j:a.size=ops.size)(m:edgesB h ops=true)(o: ∀i,i∈p::l↔i<ops.size/\a.getD i true=false)(x: ∀q∈l,waits h ops p q=false):p∈Region.ready h ops a:=by
 have c:=(o p).1 List.mem_cons_self;refine mem_ready.2 ⟨c.2,ops[p],Array.getElem?_eq_getElem c.1,λe s t=>?_⟩;have b:=(List.all_eq_true.1 m) p (List.mem_range.2 c.1);rw [Array.getElem?_eq_getElem c.1]at b;simp only [Option.map_some,Option.getD_some]at b;have b:=Array.all_eq_true_iff_forall_mem.1 b e s;rw [t]at b;simp only [Bool.not_true,Bool.false_or,Bool.and_eq_true,decide_eq_true_eq,bne_iff_ne,ne_eq]at b;obtain⟨u,y⟩:=b;have n:e.on<a.size:=by rw [j];exact u
 cases hc:a.getD e.on true with
 |true=>
  rw [Array.getD_eq_getD_getElem?,Array.getElem?_eq_getElem n]at hc⊢;simpa using hc
 |false=>
  exfalso;have hm:=(o e.on).2 ⟨u,hc⟩;rcases List.mem_cons.1 hm with hm|hm
  ·exact y hm
  ·have f:waits h ops p e.on=true:=by
    unfold waits;rw [Array.getElem?_eq_getElem c.1];simp only [Option.map_some,Option.getD_some];exact List.any_eq_true.2 ⟨e,Array.mem_toList_iff.2 s,by simp [t]⟩
   rw [x e.on hm]at f;cases f
theorem aFv {p:Region.Mode}{a:Array Bool}{i m:Nat} (hi:i∈Region.ready p ops a) (b:waits p ops i m=true):a.getD m true=true:=by
 obtain⟨_,_,q,c⟩:=mem_ready.1 hi;unfold waits at b;rw [q]at b;simp only [Option.map_some,Option.getD_some]at b;obtain⟨e,f,h⟩:=List.any_eq_true.1 b
 replace f:=Array.mem_toList_iff.1 f
 simp only [Bool.and_eq_true,beq_iff_eq]at h;have j:=c e f h.1;rw [h.2]at j
 by_cases n:m<a.size
 ·rw [Array.getD_eq_getD_getElem?,Array.getElem?_eq_getElem n]at j⊢;simpa using j
 ·rw [Array.getD_eq_getD_getElem?,Array.getElem?_eq_none (by omega)];rfl
theorem mD {e:Region.Mode}{a:Array Bool}{i p:Nat} (b:a.size=ops.size) (f:Dn e ops a) (hi:i∈Region.ready e ops a) (c:aBt e ops 5 i p=true):a.getD p true=true:=by
 replace c:=aGx c
 rcases c with c|⟨m,hm,j,n⟩
 ·exact aFv hi c
 ·have h:=aFv hi j;have o:a.getD m false=true:=by
   rw [Array.getD_eq_getD_getElem?,Array.getElem?_eq_getElem (by rw [b];exact hm)]at h⊢;simpa using h
  exact n _ b f o
theorem aOr {m:Region.Mode}{a:Array Bool}{i:Nat} (e:a.size=ops.size) (f:i<ops.size) (n:Dn m ops a) (hi:i∈Region.ready m ops a):Dn m ops (a.setIfInBounds i true):=by
 intro q p s h;by_cases j:q=i;subst j;have o:=aFv hi h;by_cases b:p=q;subst b;have c:p<a.size:=by rw [e];exact f
 simp [Array.getD_eq_getD_getElem?,c];rw [getD_set_ne true (Ne.symm b)];exact o;rw [getD_set_ne false (Ne.symm j)]at s;have o:=n q p s h;by_cases b:p=i;subst b;have c:p<a.size:=by rw [e];exact f
 simp [Array.getD_eq_getD_getElem?,c];rw [getD_set_ne true (Ne.symm b)];exact o
theorem aFm {c:Array Bool}{i:Nat}{pre post:List Nat} (h:c.size=ops.size) (j:i<ops.size) (f:(pre++i::post).Nodup) (q: ∀k,k∈pre++i::post↔k<ops.size/\c.getD k true=false):
  (pre++post).Nodup/\ ∀k,k∈pre++post↔k<ops.size/\(c.setIfInBounds i true).getD k true=false:=by
 have e:(pre++post).Nodup/\i∉pre++post:=by
  rw [List.nodup_append]at f;obtain⟨s,m,p⟩:=f;rw [List.nodup_cons]at m;refine⟨List.nodup_append.2 ⟨s,m.2,λa t b u=>p a t b (List.mem_cons_of_mem _ u)⟩,λhm=>?_⟩;rcases mA.1 hm with hm|hm
  ·exact p i hm i List.mem_cons_self rfl
  ·exact m.1 hm
 refine⟨e.1,λk=>?_⟩
 by_cases n:k=i
 ·subst n;have o:k<c.size:=by rw [h];exact j
  constructor
  ·intro hm;exact absurd hm e.2
  ·rintro⟨_,x⟩;simp [Array.getD_eq_getD_getElem?,o]at x
 ·rw [getD_set_ne true (Ne.symm n),<-q k];simp [n]
theorem vX (Q:Mm->Act->World->Prop)(l2:List Nat): ∀(l1:List Nat) (M:Mm) (a:Act) (w:World),bW P I ops kd Q (l1++l2) M a w=bW P I ops kd (λM a w=>bW P I ops kd Q l2 M a w) l1 M a w
 | [],_,_,_=>rfl
 |i::l1,M,a,w=>by
  have e:bW P I ops kd Q (l1++l2)=bW P I ops kd (λM a w=>bW P I ops kd Q l2 M a w) l1:=by
   funext M a w;exact vX Q l2 l1 M a w
  show xOp P I ops kd i (bW P I ops kd Q (l1++l2)) M a w=_;rw [e];rfl
theorem nT {b:Mm->Act->World->Prop}(h: ∀M a w,Q M a w->b M a w): ∀(l:List Nat) (M:Mm) (a:Act) (w:World),bW P I ops kd Q l M a w->bW P I ops kd b l M a w
 | [],_,_,_,hh=>h _ _ _ hh
 |_::l,_,_,_,hh=>aLk (λM a w c=>nT h l M a w c) hh
theorem aRy (c: ∀w w',I w->fJ w w'->I w'): ∀(l:List Nat) (M:Mm) (a:Act) (w:World),I w->nG M w->bW P I ops kd Q l M a w->bW P I ops kd (λM a w=>I w/\Q M a w) l M a w
 | [],_,_,_,b,_,h=>⟨b,h⟩
 |i::l,M,a,w,b,e,h=>by
  have f:xOp P I ops kd i (λM a w=>I w/\nG M w/\bW P I ops kd Q l M a w) M a w:=aWt c b e h;exact aLk (λM a w h=>aRy c l M a w h.1 h.2.1 h.2.2) f
def mvB (ops:Array Oper)(kd:Nat->Kd)(p:Nat):Bool:=match ops[p]? with
 |some o=>(kd p).isPure&&(match o.op with | .move _=>true| .assign _=>true| .extract _ _=>true|_=>false)
 |none=>false
theorem aDd.mv {I0 : World -> Prop} {p : Nat} {o : Oper} {v : Value} {a : Act} {w : World} (ho : ops[p]? = some o) (hm : mvB ops kd p = true) (hw : I w) (h : aDd P I ops o v a) : aDd P I0 ops o v a := by
  refine h.imp (λ ⟨h1, h2⟩ => ⟨h1, λ_ _ => ?_⟩) id;have q := h2 w hw;unfold mvB at hm;rw [ho] at hm;simp only [Bool.and_eq_true] at hm;have hm := hm.2
  cases hop : o.op <;> rw [hop] at hm <;> simp only [Bool.false_eq_true] at hm
  all_goals
    unfold execOp at q ⊢;rw [hop] at q ⊢;simp at q ⊢
    first
      | exact q
      | (unfold Instr.extract at q ⊢
         split at q
         · split at q
           · simp_all
           · simp_all [stuck]
         · simp_all)
def forkB (a:Region.Mode)(ops:Array Oper)(kd:Nat->Kd)(pre:List Nat)(u v:Nat)(post:List Nat):Bool:=
 pairB a ops kd (pre++u::post)&&pairB a ops kd (pre++v::post)&& !waits a ops u v&& !waits a ops v u&&(post.all λq=>aBt a ops 5 q u||aBt a ops 5 q v)&& !(mvB ops kd u&&mvB ops kd v)
theorem aFs {a:Region.Mode}(i:Nat)(post pre:List Nat)(h:pairB a ops kd (pre++i::post)=true):pairB a ops kd (pre++post)=true:=(qN i post pre h).1
theorem nV {b:Region.Mode}{p q:Nat}: ∀{l1 l2:List Nat},pairB b ops kd (l1++p::l2)=true->q∈l2->waits b ops p q=false
 | [],l2,h,a=>by
  simp only [List.nil_append,pairB,Bool.and_eq_true]at h;have:=List.all_eq_true.1 h.1 q a;simp only [Bool.and_eq_true,Bool.not_eq_true']at this;exact this.1
 |x::l1,l2,h,a=>by
  simp only [List.cons_append,pairB,Bool.and_eq_true]at h;exact nV h.2 a
theorem forkB_del {b:Region.Mode}{i u v:Nat}{a c post:List Nat}(h:forkB b ops kd (a++i::c) u v post=true):forkB b ops kd (a++c) u v post=true:=by
 unfold forkB at *;simp only [Bool.and_eq_true]at h⊢;obtain⟨⟨⟨⟨⟨e,f⟩,j⟩,m⟩,n⟩,o⟩:=h;rw [List.append_assoc,List.cons_append]at e f;refine⟨⟨⟨⟨⟨?_,?_⟩,j⟩,m⟩,n⟩,o⟩;rw [List.append_assoc];exact aFs i _ a e;rw [List.append_assoc];exact aFs i _ a f
def barB (a:Region.Mode)(ops:Array Oper)(kd:Nat->Kd)(l l2:List Nat):Bool:=l.all λp=>l2.all λq=> !waits a ops p q&&(aBt a ops 5 q p||(mvB ops kd p&&aHv ops kd p q))
theorem wP {a:Region.Mode}{l l2:List Nat}(h:barB a ops kd l l2=true){p q:Nat}(b:p∈l)(c:q∈l2):(aBt a ops 5 q p=true\/mvB ops kd p=true/\aHv ops kd p q=true)/\waits a ops p q=false:=by
 have:=List.all_eq_true.1 (List.all_eq_true.1 h p b) q c;simp only [Bool.and_eq_true,Bool.or_eq_true,Bool.not_eq_true']at this;exact⟨this.2,this.1⟩
theorem aCc {a:Region.Mode}{l l' l2:List Nat}(h:barB a ops kd l l2=true)(b: ∀x∈l',x∈l):barB a ops kd l' l2=true:=List.all_eq_true.2 λx c=>List.all_eq_true.1 h x (b x c)
theorem aMq {b:Region.Mode}{l2:List Nat} (c:pairB b ops kd l2=true): ∀{l:List Nat},pairB b ops kd l=true->barB b ops kd l l2=true->pairB b ops kd (l++l2)=true
 | [],_,_=>c
 |p::l,h,e=>by
  simp only [pairB,Bool.and_eq_true]at h;rw [List.cons_append];simp only [pairB,Bool.and_eq_true];refine⟨List.all_eq_true.2 λq a=>?_,aMq c h.2 (aCc e λx f=>List.mem_cons_of_mem _ f)⟩;rcases mA.1 a with a|a
  ·exact List.all_eq_true.1 h.1 q a
  ·obtain⟨i,j⟩:=wP e List.mem_cons_self a;rw [j];simp only [Bool.not_false,Bool.true_and,Bool.or_eq_true];exact i.imp id And.right
theorem aPz {I0:World->Prop}{c:Mm->Act->World->Prop}{l2:List Nat}: ∀(l:List Nat) {M:Mm}{a:Act}{w:World},(∀p∈l,mvB ops kd p=true)->I w->bW P I ops kd (λ_ a w=>I0 w/\bW P I0 ops kd c l2 none a w) l M a w->I0 w/\bW P I0 ops kd c (l++l2) none a w
 | [],_,_,_,_,_,h=>h
 |p::l,M,a,w,e,f,h=>by
  have hm:=e p List.mem_cons_self;have b:=hm;change xOp P I ops kd p _ M a w at h;unfold xOp at h
  cases ho:ops[p]? with
  |none=>rw [ho]at h;exact h.elim
  |some _=>
   have i:kd p= .pure:=by
    unfold mvB at b;rw [ho]at b;simp only [Bool.and_eq_true]at b
    cases h':kd p<;>simp_all [Kd.isPure]
   simp only [ho,i]at h;obtain⟨v,j,m⟩:=h;obtain⟨n,q⟩:=aPz l (λx s=>e x (List.mem_cons_of_mem _ s)) f m;refine⟨n,?_⟩;rw [List.cons_append];show xOp P I0 ops kd p _ none a w;unfold xOp;simp only [ho,i];exact⟨v,j.mv ho hm f,q⟩
theorem aKm {u:Region.Mode}{Qx:Exit->Act->World->Prop} (Y: ∀i B,kd i= .mk B-> ∀w,I w->B<=w.heap.size) (hs: ∀(k:Nat) (o:Oper) cs b,ops[k]? =some o->o.op≠ .select cs b) (hI: ∀w w',I w->fJ w w'->I w') (T:edgesB u ops=true) (l2:List Nat)
  (A: ∀(e:Nat) (c:Array Bool) (l:List Nat) (M:Mm) (a:Act) (w:World),(∀p∈l,mvB ops kd p=true)->c.size=ops.size->(l++l2).Nodup->(∀i,i∈l++l2↔i<ops.size/\c.getD i true=false)->pairB u ops kd l=true->barB u ops kd l l2=true->(l++l2).length<=e->I w->nG M w->Dn u ops c->bW P I ops kd Q l M a w->wpAny P u ops Qx e c a w):
  ∀(e:Nat) (c:Array Bool) (l:List Nat) (M:Mm) (a:Act) (w:World),c.size=ops.size->(l++l2).Nodup->(∀i,i∈l++l2↔i<ops.size/\c.getD i true=false)->pairB u ops kd l=true->barB u ops kd l l2=true->(l++l2).length<=e->I w->nG M w->Dn u ops c->
   bW P I ops kd Q l M a w->wpAny P u ops Qx e c a w:=by
 have E: ∀{c:Array Bool}{i:Nat},c.size=ops.size->i∈Region.ready u ops c->i<ops.size/\c.getD i true=false:=by
  intro c i f hi;obtain⟨D,o,ho,_⟩:=mem_ready.1 hi;exact⟨(Array.getElem?_eq_some_iff.1 ho).1,D⟩
 intro e
 induction e with
 |zero=>
  intro c l M a w f m y _ _ j s F n h;have D:l=[]:=List.eq_nil_of_length_eq_zero (by rw [List.length_append]at j;omega);subst D;exact A 0 c [] M a w (by simp) f m y rfl rfl j s F n h
 |succ e ih=>
  intro c l M a w f m y C G j s F n h
  by_cases t: ∀p∈l,mvB ops kd p=true
  ·exact A _ c l M a w t f m y C G j s F n h
  cases l with
  |nil=>exact absurd (by simp) t
  |cons p0 l0=>
   refine⟨λhr=>?_,λi hi=>?_⟩
   ·exfalso;have:=aDj (p:=p0) (l:=l0++l2) f T y (λq H=>by
     rcases mA.1 H with H|H
     ·exact nV (l1:=[]) C H
     ·exact(wP G List.mem_cons_self H).2)
    rw [hr]at this;cases this
   ·have J:=(E f hi).1;have L:=(y i).2 (E f hi);rcases mA.1 L with hm|hm
    ·obtain⟨O,X,he⟩:=List.append_of_mem hm;rw [he]at m y C G j h;have R: ∀p∈O,aHv ops kd p i=true:=λp S=>by
      rcases(qN i _ O C).2 p S with hw|hm
      ·have:=mD f n hi hw;have D:=((y p).1 (List.mem_append_left _ (List.mem_append_left _ S))).2;rw [D]at this;cases this
      ·exact hm
     have z:=aFu Y hs hI i X O M a w s F R h;have z:=aJy (Qx:=Qx) Y hI s F z;refine wpOp_mono (λa w ⟨M,h⟩=>?_) z;rw [List.append_assoc,List.cons_append]at m y;obtain⟨n1,n2⟩:=aFm f J m y;refine ih _ (O++X) M a w (by simpa using f) (by rw [List.append_assoc];exact n1) (by rw [List.append_assoc];exact n2) (aFs i X O C) (aCc G λ_ z=>?_) (by simp at j⊢;omega) h.1 h.2.1 (aOr f J n hi) h.2.2;rcases mA.1 z with z|z
     ·exact List.mem_append_left _ z
     ·exact List.mem_append_right _ (List.mem_cons_of_mem _ z)
    ·exfalso;refine t λp C=>?_
     rcases(wP G C hm).1 with q|q
     ·have:=mD f n hi q;have D:=((y p).1 (List.mem_append_left _ C)).2;rw [D]at this;cases this
     ·exact q.1
theorem aUs {G:Region.Mode}{Qx:Exit->Act->World->Prop} (J: ∀i B,kd i= .mk B-> ∀w,I w->B<=w.heap.size) (hs: ∀(k:Nat) (o:Oper) cs b,ops[k]? =some o->o.op≠ .select cs b) (L: ∀w w',I w->fJ w w'->I w') (H:edgesB G ops=true) (u v:Nat) (post l2:List Nat)
  (O: ∀(f:Nat) (c:Array Bool) (l:List Nat) (M:Mm) (a:Act) (w:World),(∀p∈l,mvB ops kd p=true)->c.size=ops.size->(l++l2).Nodup->(∀i,i∈l++l2↔i<ops.size/\c.getD i true=false)->pairB G ops kd l=true->barB G ops kd l l2=true->(l++l2).length<=f->I w->nG M w->Dn G ops c->bW P I ops kd Q l M a w->wpAny P G ops Qx f c a w):
  ∀(f:Nat) (c:Array Bool) (pre:List Nat) (M:Mm) (a:Act) (w:World),c.size=ops.size->(pre++u::v::(post++l2)).Nodup->(∀i,i∈pre++u::v::(post++l2)↔i<ops.size/\c.getD i true=false)->forkB G ops kd pre u v post=true->barB G ops kd (pre++u::v::post) l2=true->(pre++u::v::(post++l2)).length<=f->I w->nG M w->Dn G ops c->
   bW P I ops kd (λM a w=>bW P I ops kd Q (u::v::post) M a w/\bW P I ops kd Q (v::u::post) M a w) pre M a w->wpAny P G ops Qx f c a w:=by
 have ac: ∀{c:Array Bool}{i:Nat},c.size=ops.size->i∈Region.ready G ops c->i<ops.size/\c.getD i true=false:=by
  intro c i e hi;obtain⟨A,o,ho,_⟩:=mem_ready.1 hi;exact⟨(Array.getElem?_eq_some_iff.1 ho).1,A⟩
 intro f
 induction f with
 |zero=>intro c pre M a w _ _ _ _ _ s;simp at s
 |succ f ih=>
  intro c pre M a w e S E hp X s C Y n h;have ap:=hp;unfold forkB at hp;simp only [Bool.and_eq_true,Bool.not_eq_true']at hp;obtain⟨⟨⟨⟨⟨z,T⟩,aq⟩,_⟩,ar⟩,ad⟩:=hp;refine⟨λhr=>?_,λi hi=>?_⟩
  ·exfalso
   cases pre with
   |nil=>
    have:=aDj (p:=u) (l:=v::(post++l2)) e H E (λq j=>by
     rcases List.mem_cons.1 j with rfl|j
     ·exact aq
     ·rcases mA.1 j with j|j
      ·exact nV (l1:=[]) z j
      ·exact(wP X List.mem_cons_self j).2)
    rw [hr]at this;cases this
   |cons p pre=>
    have:=aDj (p:=p) (l:=pre++u::v::(post++l2)) e H E (λq j=>by
     rcases mA.1 j with j|j
     ·exact nV (l1:=[]) z (List.mem_append_left _ j)
     ·rcases List.mem_cons.1 j with rfl|j
      ·exact nV (l1:=[]) z (List.mem_append_right _ List.mem_cons_self)
      ·rcases List.mem_cons.1 j with rfl|j
       ·exact nV (l1:=[]) T (List.mem_append_right _ List.mem_cons_self)
       ·rcases mA.1 j with j|j
        ·exact nV (l1:=[]) z (List.mem_append_right _ (List.mem_cons_of_mem _ j))
        ·exact(wP X List.mem_cons_self j).2)
    rw [hr]at this;cases this
  ·have D:=(ac e hi).1;have ae:=(E i).2 (ac e hi);rcases mA.1 ae with hm|hm
   ·obtain⟨p1,p2,rfl⟩:=List.append_of_mem hm;have ag:=z;rw [List.append_assoc,List.cons_append]at ag;have t: ∀p∈p1,aHv ops kd p i=true:=λp y=>by
     rcases(qN i _ p1 ag).2 p y with hw|hm
     ·have:=mD e n hi hw;have A:=((E p).1 (List.mem_append_left _ (List.mem_append_left _ y))).2;rw [A]at this;cases this
     ·exact hm
    have m:=aFu J hs L i p2 p1 M a w C Y t h;have m:=aJy (Qx:=Qx) J L C Y m;refine wpOp_mono (λa w ⟨M,h⟩=>?_) m;have R:=S;rw [List.append_assoc,List.cons_append]at R;have ai:=E;rw [List.append_assoc,List.cons_append]at ai;obtain⟨n1,n2⟩:=aFm e D R ai;refine ih _ (p1++p2) M a w (by simpa using e) (by rw [List.append_assoc];exact n1) (by rw [List.append_assoc];exact n2) (forkB_del ap) (aCc X λx m=>by simp at m⊢;rcases m with h|h|h|h|h<;>simp [h]) (by simp at s⊢;omega) h.1 h.2.1 (aOr e D n hi) h.2.2
   ·rcases List.mem_cons.1 hm with rfl|hm
    ·have t: ∀p∈pre,aHv ops kd p i=true:=λp y=>by
      rcases(qN i _ pre z).2 p y with hw|hm
      ·have:=mD e n hi hw;have A:=((E p).1 (List.mem_append_left _ y)).2;rw [A]at this;cases this
      ·exact hm
     have h1:bW P I ops kd Q (pre++i::v::post) M a w:=by
      rw [vX];exact nT (λ_ _ _ h=>h.1) pre M a w h
     have m:=aFu J hs L i (v::post) pre M a w C Y t h1;have m:=aJy (Qx:=Qx) J L C Y m;refine wpOp_mono (λa w ⟨M,h⟩=>?_) m;obtain⟨n1,n2⟩:=aFm (pre:=pre) e D S E;exact aKm J hs L H l2 O f _ (pre++v::post) M a w (by simpa using e) (by simpa using n1) (by simpa using n2) T (aCc X λx m=>by simp at m⊢;rcases m with h|h|h<;>simp [h]) (by simp at s⊢;omega) h.1 h.2.1 (aOr e D n hi) h.2.2
    ·rcases List.mem_cons.1 hm with rfl|hm
     ·have t: ∀p∈pre,aHv ops kd p i=true:=λp y=>by
       rcases(qN i _ pre T).2 p y with hw|hm
       ·have:=mD e n hi hw;have A:=((E p).1 (List.mem_append_left _ y)).2;rw [A]at this;cases this
       ·exact hm
      have h1:bW P I ops kd Q (pre++i::u::post) M a w:=by
       rw [vX];exact nT (λ_ _ _ h=>h.2) pre M a w h
      have m:=aFu J hs L i (u::post) pre M a w C Y t h1;have m:=aJy (Qx:=Qx) J L C Y m;refine wpOp_mono (λa w ⟨M,h⟩=>?_) m;have F:(pre++u::i::(post++l2)).Perm (pre++i::u::(post++l2)):=List.Perm.append_left pre (List.Perm.swap i u _);obtain⟨n1,n2⟩:=aFm e D (F.nodup_iff.1 S) (λk=>by rw [<-F.mem_iff];exact E k);exact aKm J hs L H l2 O f _ (pre++u::post) M a w (by simpa using e) (by simpa using n1) (by simpa using n2) z (aCc X λx m=>by simp at m⊢;rcases m with h|h|h<;>simp [h]) (by simp at s⊢;omega) h.1 h.2.1 (aOr e D n hi) h.2.2
     ·exfalso;rcases mA.1 hm with hm|hm
      rotate_left
      ·have am: ∀x,x∈pre++u::v::post->x∈pre++u::v::(post++l2)->mvB ops kd x=true:=λx h1 h2=>by
        rcases(wP X h1 hm).1 with q|q
        ·have:=mD e n hi q;have A:=((E x).1 h2).2;rw [A]at this;cases this
        ·exact q.1
       rw [am u (by simp) (by simp),am v (by simp) (by simp)]at ad
       cases ad
      have h5:=List.all_eq_true.1 ar i hm;simp only [Bool.or_eq_true]at h5;rcases h5 with h5|h5
      ·have:=mD e n hi h5;have A:=((E u).1 (List.mem_append_right _ List.mem_cons_self)).2;rw [A]at this;cases this
      ·have:=mD e n hi h5;have A:=((E v).1 (List.mem_append_right _ (List.mem_cons_of_mem _ List.mem_cons_self))).2;rw [A]at this;cases this
theorem aMa {id N:Nat}{l:List Oper}{Qx:Exit->Env->World->Prop}{a:Act}{w:World}{pre post l2:List Nat}{u v:Nat}{I0:World->Prop}(O: ∀i B,kd i= .mk B-> ∀w,I w->B<=w.heap.size)(y: ∀i B,kd i= .mk B-> ∀w,I0 w->B<=w.heap.size)(hm:P.follows .mixedOrders=true)(J:Region.noSelect l.toArray=true)(m:edgesB .any l.toArray=true)(R:forkB .any l.toArray kd pre u v post=true)(S:barB .any l.toArray kd (pre++u::v::post) l2=true)(z:pairB .any l.toArray kd l2=true)
    (b:(pre++u::v::(post++l2)).Perm (List.range l.length))(L: ∀w w',I w->fJ w w'->I w')(C: ∀w w',I0 w->fJ w w'->I0 w')(t:I w)
    (h: ∀w',fJ w w'->bW P I l.toArray kd (λM a w=>bW P I l.toArray kd (λ_ a w=>I0 w/\bW P I0 l.toArray kd (λ_ a w=> ∃c,Fits N a c/\Qx .normal c w) l2 none a w) (u::v::post) M a w/\bW P I l.toArray kd (λ_ a w=>I0 w/\bW P I0 l.toArray kd (λ_ a w=> ∃c,Fits N a c/\Qx .normal c w) l2 none a w) (v::u::post) M a w) pre (some λ_=>False) a w'):(Code.region id l.toArray true).wp P (aEe N Qx) a w:=by
 refine wp_region_any hm (aUs O (Region.noSelect_spec J) L m u v post l2 (λn f l M a w o D E T F G s t _ H j=>aCy (I:=I0) y (Region.noSelect_spec J) C m (λ_ _ _ h=>h) n f (l++l2) none a w D E T (aMq z F G) s (aPz l o t j).1 nG.no H (aPz l o t j).2) _ _ pre (some λ_=>False) a _ (by simp) (b.nodup_iff.2 List.nodup_range) (λi=>?_) R S (by rw [b.length_eq];simp) (L _ _ t ((Below.refl _ _).drew)) (λ_ e _ X=>by cases e;exact X.elim) (λ_ _ j _=>by simp [Array.getD_eq_getD_getElem?,Array.getElem?_replicate]at j;split at j<;>simp at j) (h _ ((Below.refl _ _).drew)));rw [b.mem_iff,List.mem_range];constructor;intro hi;exact⟨by simpa using hi,by simp [Array.getD_eq_getD_getElem?,hi]⟩;exact λh=>by simpa using h.1
theorem aFb {id N:Nat}{l:List Oper}{Qx:Exit->Env->World->Prop}{a:Act}{w:World}{σ:List Nat}(n: ∀i B,kd i= .mk B-> ∀w,I w->B<=w.heap.size)(hm:P.follows .mixedOrders=true)(o:Region.noSelect l.toArray=true)(f:edgesB .any l.toArray=true)(s:pairB .any l.toArray kd σ=true)
    (b:σ.Perm (List.range l.length))(m: ∀w w',I w->fJ w w'->I w')(t:I w)(h: ∀w',fJ w w'->bW P I l.toArray kd (λ_ a w=> ∃c,Fits N a c/\Qx .normal c w) σ (some λ_=>False) a w'):(Code.region id l.toArray true).wp P (aEe N Qx) a w:=by
 refine wp_region_any hm (aCy n (Region.noSelect_spec o) m f (λ_ _ _ h=>h) _ _ σ (some λ_=>False) a _ (by simp) (b.nodup_iff.2 List.nodup_range) (λi=>?_) s (by rw [b.length_eq];simp) (m _ _ t ((Below.refl _ _).drew)) (λ_ e _ u=>by cases e;exact u.elim) (λ_ _ j _=>by simp [Array.getD_eq_getD_getElem?,Array.getElem?_replicate]at j;split at j<;>simp at j) (h _ ((Below.refl _ _).drew)));rw [b.mem_iff,List.mem_range];constructor;intro hi;exact⟨by simpa using hi,by simp [Array.getD_eq_getD_getElem?,hi]⟩;exact λh=>by simpa using h.1
end

def kdOf (κ:List Kd)(i:Nat):Kd:=κ.getD i .pure

def XL (P:Program)(I:World->Prop)(N:Nat)(ops:Array Oper)(κ:List Kd)(K:Mm->Env->World->Prop)(M:Mm)(σ:List Nat)(l:List Oper)(ρ:Env)(w:World):Prop:=
 (l.map some=σ.map λi=>ops[i]?)-> ∀w',fJ w w'->I w'-> ∀a,Fits N a ρ->bW P I ops (kdOf κ) (λM a w=> ∃b,Fits N a b/\K M b w) σ M a w'

section
variable {P:Program}{I:World->Prop}{N:Nat}{ops:Array Oper}{κ:List Kd}{K:Mm->Env->World->Prop}{Q:Exit->Env->World->Prop}{k:Nat}{M:Mm}{σ:List Nat}{rest:List Oper}{ρ:Env}{w:World}{v:Value}{d:Nat}{op:Op}{ty:TypeId}{pos:String}{af:Array Edge}{g:Option (Nat×Bool)}
def sel (l:List Oper):List Nat->List Oper
 | []=>[]
 |i::σ=>match l[i]? with
  |some o=>o::sel l σ
  |none=>[]
theorem aGf (l:List Oper): ∀(σ:List Nat),(∀i∈σ,i<l.length)->(sel l σ).map some=σ.map λi=>l.toArray[i]?
 | [],_=>rfl
 |i::σ,h=>by
  have hi:=h i List.mem_cons_self;have a:=aGf l σ (λj b=>h j (List.mem_cons_of_mem _ b));unfold sel;rw [gE hi];simp only [List.map_cons,a];simp [hi]
theorem WP_mix {id:Nat}{l:List Oper}(σ:List Nat)(κ:List Kd)(m: ∀i B,kdOf κ i= .mk B-> ∀w,I w->B<=w.heap.size)(hm:P.follows .mixedOrders=true)(n:Region.noSelect l.toArray=true)(e:edgesB .any l.toArray=true)(o:pairB .any l.toArray (kdOf κ) σ=true)
    (b:σ.isPerm (List.range l.length)=true)(f: ∀w w',I w->fJ w w'->I w')(j:I w)(h:XL P I N l.toArray κ (λ_ ρ w=>Q .normal ρ w) (some λ_=>False) σ (sel l σ) ρ w):WP P N (.region id l.toArray true) Q ρ w:=by
 have b:σ.Perm (List.range l.length):=List.isPerm_iff.1 b;intro a p;refine aFb (I:=I) (σ:=σ) m hm n e o b f j (λw' c=>?_);exact h (aGf l σ λi hi=>List.mem_range.1 (b.mem_iff.1 hi)) w' c (f _ _ j c) a p
theorem yV {id:Nat}{l:List Oper}(σ:List Nat)(κ:List Kd)(m: ∀i B,kdOf κ i= .mk B-> ∀w,I w->B<=w.heap.size)(hm:P.follows .mixedOrders=true)(n:Region.noSelect l.toArray=true)(e:edgesB .any l.toArray=true)(o:pairB .any l.toArray (kdOf κ) σ=true)
    (b:σ=List.range l.length)(f: ∀w w',I w->fJ w w'->I w')(j:I w)(h:XL P I N l.toArray κ (λ_ ρ w=>Q .normal ρ w) (some λ_=>False) σ l ρ w):WP P N (.region id l.toArray true) Q ρ w:=by
 intro a p;refine aFb (I:=I) (σ:=σ) m hm n e o (by rw [b]) f j (λw' c=>?_);refine h ?_ w' c (f _ _ j c) a p;rw [b];apply List.ext_getElem;simp;intro i _ _;simp

theorem XL_nil (h: ∀w',fJ w w'->K M ρ w'):XL P I N ops κ K M σ [] ρ w:=by
 intro b w' a _ _ c;have:σ=[]:=by
  have:=congrArg List.length b;simp at this;exact List.eq_nil_of_length_eq_zero this.symm
 subst this;exact⟨ρ,c,h w' a⟩
theorem XL.head {o:Oper}(a:(o::rest).map some=(k::σ).map λi=>ops[i]?):ops[k]? =some o:=by
 simp only [List.map_cons,List.cons.injEq]at a;exact a.1.symm
theorem XL.tail {o:Oper}(a:(o::rest).map some=(k::σ).map λi=>ops[i]?):rest.map some=σ.map λi=>ops[i]? :=by
 simp only [List.map_cons,List.cons.injEq]at a;exact a.2

theorem XL_pure (f:kdOf κ k= .pure)(i:fM N ops ρ ⟨some d,op,ty,pos,af,g⟩=true)(hd:Nat.blt d N=true)(h: ∀w',I w'->Do P ⟨some d,op,ty,pos,af,g⟩ ρ w' v w')(n:XL P I N ops κ K M σ rest (upd ρ d v) w):
    XL P I N ops κ K M (k::σ) (⟨some d,op,ty,pos,af,g⟩::rest) ρ w:=by
 intro e w' b j _ c;simp only [bW];unfold xOp;simp only [XL.head e,f];exact⟨v,.inl ⟨by rw [c.wanted];exact i,λm o=>by rw [c.eval];exact h m o⟩,n (XL.tail e) w' b j _ (c.put (wE hd) v)⟩
theorem XL_offp (f:kdOf κ k= .pure)(h:fM N ops ρ ⟨some d,op,ty,pos,af,g⟩=false)(hd:Nat.blt d N=true)(n:XL P I N ops κ K M σ rest (upd ρ d undef) w):
    XL P I N ops κ K M (k::σ) (⟨some d,op,ty,pos,af,g⟩::rest) ρ w:=by
 intro c w' b i _ e;simp only [bW];unfold xOp;simp only [XL.head c,f];exact⟨undef,.inr ⟨by rw [e.wanted];exact h,rfl⟩,n (XL.tail c) w' b i _ (e.put (wE hd) _)⟩
theorem XL_offf (h: ∀w w',I w->fJ w w'->I w')(i:kdOf κ k= .fcall)(j:fM N ops ρ ⟨some d,op,ty,pos,af,g⟩=false)(hd:Nat.blt d N=true)(n:XL P I N ops κ K M σ rest (upd ρ d undef) w):
    XL P I N ops κ K M (k::σ) (⟨some d,op,ty,pos,af,g⟩::rest) ρ w:=by
 intro c w' b m _ e;simp only [bW];unfold xOp;simp only [XL.head c,i];exact⟨undef,.inr ⟨by rw [e.wanted];exact j,rfl⟩,λo f=>n (XL.tail c) o (b.trans f) (h _ _ m f) _ (e.put (wE hd) _)⟩
theorem xZ (h: ∀w w',I w->fJ w w'->I w')(i:kdOf κ k= .read)(j:fM N ops ρ ⟨some d,op,ty,pos,af,g⟩=false)(hd:Nat.blt d N=true)(n:XL P I N ops κ K M σ rest (upd ρ d undef) w):
    XL P I N ops κ K M (k::σ) (⟨some d,op,ty,pos,af,g⟩::rest) ρ w:=by
 intro c w' b m _ e;simp only [bW];unfold xOp;simp only [XL.head c,i];exact⟨undef,.inr ⟨by rw [e.wanted];exact j,rfl⟩,λo f=>n (XL.tail c) o (b.trans f) (h _ _ m f) _ (e.put (wE hd) _)⟩
theorem XL_offe (h: ∀w w',I w->fJ w w'->I w')(i:kdOf κ k= .eff)(j:fM N ops ρ ⟨some d,op,ty,pos,af,g⟩=false)(hd:Nat.blt d N=true)(n:XL P I N ops κ K M σ rest (upd ρ d undef) w):
    XL P I N ops κ K M (k::σ) (⟨some d,op,ty,pos,af,g⟩::rest) ρ w:=by
 intro c w' b m _ e;simp only [bW];unfold xOp;simp only [XL.head c,i];exact .inr ⟨by rw [e.wanted];exact j,λo f=>n (XL.tail c) o (b.trans f) (h _ _ m f) _ (e.put (wE hd) _)⟩
theorem yG (j: ∀w w',I w->fJ w w'->I w')(m:kdOf κ k= .read)(o:fM N ops ρ ⟨some d,op,ty,pos,af,g⟩=true)(hd:Nat.blt d N=true)(h: ∀w',fJ w w'->Do P ⟨some d,op,ty,pos,af,g⟩ ρ w' v w')(n:XL P I N ops κ K M σ rest (upd ρ d v) w):
    XL P I N ops κ K M (k::σ) (⟨some d,op,ty,pos,af,g⟩::rest) ρ w:=by
 intro i w' b p _ f;simp only [bW];unfold xOp;simp only [XL.head i,m];refine⟨v,.inl ⟨by rw [f.wanted];exact o,λc e=>?_⟩,λc e=>n (XL.tail i) c (b.trans e) (j _ _ p e) _ (f.put (wE hd) v)⟩;rw [f.eval,show(execOp (ev ρ) _).run P c=_ from h c (b.trans e)];exact⟨rfl,rfl⟩
theorem XL_call {f:FuncId}{args:Array Value}(p: ∀w w',I w->fJ w w'->I w')(q:kdOf κ k= .read)(s:fM N ops ρ ⟨some d,op,ty,pos,af,g⟩=true)(hd:Nat.blt d N=true)(h: ∀w',fJ w w'->DoC P ⟨some d,op,ty,pos,af,g⟩ ρ w' f args)
    (t: ∀w',fJ w w'->Calls P f args w' λe j=>e= .returned v/\Below w'.heap.size w' j)(n:XL P I N ops κ K M σ rest (upd ρ d v) w):
    XL P I N ops κ K M (k::σ) (⟨some d,op,ty,pos,af,g⟩::rest) ρ w:=by
 intro o w' b u _ m;simp only [bW];unfold xOp;simp only [XL.head o,q];refine⟨v,.inl ⟨by rw [m.wanted];exact s,λc i=>?_⟩,λc i=>n (XL.tail o) c (b.trans i) (p _ _ u i) _ (m.put (wE hd) v)⟩;rw [m.eval,show(execOp (ev ρ) _).run P c=_ from h c (b.trans i)];exact⟨rfl,(t c (b.trans i)).mono λe _ ⟨x,y⟩=>⟨x,y⟩⟩
theorem XL_fcall {f:FuncId}{args:Array Value}(p: ∀w w',I w->fJ w w'->I w')(q:kdOf κ k= .fcall)(s:fM N ops ρ ⟨some d,op,ty,pos,af,g⟩=true)(hd:Nat.blt d N=true)(h: ∀w',I w'->DoC P ⟨some d,op,ty,pos,af,g⟩ ρ w' f args)
    (t: ∀w',I w'->Calls P f args w' λe i=>e= .returned v/\Below w'.heap.size w' i)(n:XL P I N ops κ K M σ rest (upd ρ d v) w):
    XL P I N ops κ K M (k::σ) (⟨some d,op,ty,pos,af,g⟩::rest) ρ w:=by
 intro o w' j u _ m;simp only [bW];unfold xOp;simp only [XL.head o,q];refine⟨v,.inl ⟨by rw [m.wanted];exact s,λb c=>?_⟩,λb c=>n (XL.tail o) b (j.trans c) (p _ _ u c) _ (m.put (wE hd) v)⟩;rw [m.eval,show(execOp (ev ρ) _).run P b=_ from h b c];exact⟨rfl,(t b c).mono λe _ ⟨x,y⟩=>⟨x,y⟩⟩
theorem XL_splitb {b:Bool}{x:Operand}(a:kdOf κ k= .pure)(c:fM N ops ρ ⟨some d,.move x,ty,pos,af,g⟩=true)(hd:Nat.blt d N=true)(e:ev ρ x= .bool b)
    (f:b=true->XL P I N ops κ K M σ rest (upd ρ d (.bool true)) w)(h:b=false->XL P I N ops κ K M σ rest (upd ρ d (.bool false)) w):XL P I N ops κ K M (k::σ) (⟨some d,.move x,ty,pos,af,g⟩::rest) ρ w:=by
 refine XL_pure (v:= .bool b) a c hd (λ_ _=>by unfold Do;simp [execOp,e]) ?_;cases b;exact h rfl;exact f rfl
theorem XL_exN {R:World->Value->World->Prop}(j: ∀w w',I w->fJ w w'->I w')(p:kdOf κ k= .new)(q:fM N ops ρ ⟨some d,op,ty,pos,af,g⟩=true)(hd:Nat.blt d N=true)
    (h: ∀b,fJ w b-> ∃v w',Do P ⟨some d,op,ty,pos,af,g⟩ ρ b v w'/\fJ b w'/\R b v w')(n: ∀b v w',fJ w b->R b v w'->XL P I N ops κ K M σ rest (upd ρ d v) w'):XL P I N ops κ K M (k::σ) (⟨some d,op,ty,pos,af,g⟩::rest) ρ w:=by
 intro m w' c s _ f;obtain⟨v,i,t,o,u⟩:=h w' c;simp only [bW];unfold xOp;simp only [XL.head m,p];exact .inl ⟨by rw [f.wanted];exact q,.inl ⟨v,i,by rw [f.eval];exact t,o,λx e=>n _ _ _ c u (XL.tail m) x e (j _ _ (j _ _ s o) e) _ (f.put (wE hd) v)⟩⟩
theorem XL_newC {f:FuncId}{args:Array Value}{R:World->Ending->World->Prop}(m: ∀w w',I w->fJ w w'->I w')(q:kdOf κ k= .new)(s:fM N ops ρ ⟨some d,op,ty,pos,af,g⟩=true)(hd:Nat.blt d N=true)(h: ∀w',fJ w w'->DoC P ⟨some d,op,ty,pos,af,g⟩ ρ w' f args)
    (t: ∀w',fJ w w'->Calls P f args w' (R w'))(n: ∀w' e b,fJ w w'->R w' e b-> ∃v,e= .returned v/\fJ w' b/\XL P I N ops κ K M σ rest (upd ρ d v) b):XL P I N ops κ K M (k::σ) (⟨some d,op,ty,pos,af,g⟩::rest) ρ w:=by
 intro o w' c u _ j;simp only [bW];unfold xOp;simp only [XL.head o,q];refine .inl ⟨by rw [j.wanted];exact s,.inr ⟨f,args,by rw [j.eval];exact h w' c,(t w' c).mono λe b x=>?_⟩⟩;obtain⟨v,y,p,z⟩:=n w' e b c x;exact⟨v,y,p,λA i=>z (XL.tail o) A i (m _ _ (m _ _ u p) i) _ (j.put (wE hd) v)⟩
theorem XL_ex {R:World->Value->World->Prop}(o: ∀w w',I w->fJ w w'->I w')(p:kdOf κ k= .eff)(q:fM N ops ρ ⟨some d,op,ty,pos,af,g⟩=true)(hd:Nat.blt d N=true)(h: ∀b,fJ w b-> ∃v w',Do P ⟨some d,op,ty,pos,af,g⟩ ρ b v w'/\R b v w')
    (n: ∀b v w',fJ w b->R b v w'->I w'/\XL P I N ops κ K none σ rest (upd ρ d v) w'):XL P I N ops κ K M (k::σ) (⟨some d,op,ty,pos,af,g⟩::rest) ρ w:=by
 intro m w' c _ _ f;obtain⟨v,i,s,t⟩:=h w' c;simp only [bW];unfold xOp;simp only [XL.head m,p];have j:=n _ _ _ c t;exact .inl ⟨by rw [f.wanted];exact q,.inl ⟨v,i,by rw [f.eval];exact s,j.1,none,nG.no,λu e=>j.2 (XL.tail m) u e (o _ _ j.1 e) _ (f.put (wE hd) v)⟩⟩
theorem XL_exU {R:World->World->Prop}(o: ∀w w',I w->fJ w w'->I w')(p:kdOf κ k= .eff)(q:fM N ops ρ ⟨none,op,ty,pos,af,g⟩=true)(h: ∀b,fJ w b-> ∃w',DoU P ⟨none,op,ty,pos,af,g⟩ ρ b w'/\R b w')
    (n: ∀b w',fJ w b->R b w'->I w'/\XL P I N ops κ K none σ rest ρ w'):XL P I N ops κ K M (k::σ) (⟨none,op,ty,pos,af,g⟩::rest) ρ w:=by
 intro m w' c _ _ f;obtain⟨i,s,t⟩:=h w' c;simp only [bW];unfold xOp;simp only [XL.head m,p];have j:=n _ _ c t;exact .inl ⟨by rw [f.wanted];exact q,.inr (.inl ⟨i,by rw [f.eval];exact s,j.1,none,nG.no,λu e=>j.2 (XL.tail m) u e (o _ _ j.1 e) _ f⟩)⟩
theorem XL_effC {f:FuncId}{args:Array Value}{R:World->Ending->World->Prop}(p: ∀w w',I w->fJ w w'->I w')(q:kdOf κ k= .eff)(s:fM N ops ρ ⟨some d,op,ty,pos,af,g⟩=true)(hd:Nat.blt d N=true)(h: ∀w',fJ w w'->DoC P ⟨some d,op,ty,pos,af,g⟩ ρ w' f args)
    (t: ∀w',fJ w w'->Calls P f args w' (R w'))(n: ∀w' e b,fJ w w'->R w' e b-> ∃v,e= .returned v/\I b/\XL P I N ops κ K none σ rest (upd ρ d v) b):XL P I N ops κ K M (k::σ) (⟨some d,op,ty,pos,af,g⟩::rest) ρ w:=by
 intro m w' c _ _ j;simp only [bW];unfold xOp;simp only [XL.head m,q];refine .inl ⟨by rw [j.wanted];exact s,.inr (.inr ⟨f,args,by rw [j.eval];exact h w' c,(t w' c).mono λe b u=>?_⟩)⟩;obtain⟨v,x,o,y⟩:=n w' e b c u;exact⟨v,x,o,none,nG.no,λz i=>y (XL.tail m) z i (p _ _ o i) _ (j.put (wE hd) v)⟩
theorem XL_exP {R:Value->Prop}(a:kdOf κ k= .pure)(b:fM N ops ρ ⟨some d,op,ty,pos,af,g⟩=true)(hd:Nat.blt d N=true)(h: ∃v,(∀w',Do P ⟨some d,op,ty,pos,af,g⟩ ρ w' v w')/\R v)(n: ∀v,R v->XL P I N ops κ K M σ rest (upd ρ d v) w):
    XL P I N ops κ K M (k::σ) (⟨some d,op,ty,pos,af,g⟩::rest) ρ w:=by
 obtain⟨v,c,e⟩:=h;exact XL_pure a b hd (λw' _=>c w') (n v e)
theorem XL_mk {A:Nat->Prop}{B:Nat}{m:Mk}{cs:List Value}{T:TypeId}(p: ∀w w',I w->fJ w w'->I w')(q:kdOf κ k= .mk B)(s:fM N ops ρ ⟨some d,op,ty,pos,af,g⟩=true)(hd:Nat.blt d N=true)
    (h: ∀w',I w'->Do P ⟨some d,op,ty,pos,af,g⟩ ρ w' (m.val w'.heap.size) (w'.alloc (.cells cs.toArray T)))
    (n: ∀b c,fJ w c->B<=b-> ¬A b->Blk c b cs T->XL P I N ops κ K (some λx=>x=b\/A x) σ rest (upd ρ d (m.val b)) c):XL P I N ops κ K (some A) (k::σ) (⟨some d,op,ty,pos,af,g⟩::rest) ρ w:=by
 intro i w' e t _ f;simp only [bW];unfold xOp;simp only [XL.head i,q];refine .inl ⟨by rw [f.wanted];exact s,A,m,cs,T,rfl,λu y=>by rw [f.eval];exact h u y,λb j o z C D=>?_⟩;exact n b j (e.trans o) z C D (XL.tail i) j (fJ.refl _) (p _ _ t o) _ (f.put (wE hd) _)
theorem upd_comm (ρ:Env){d e:Nat}(h:d≠e)(u v:Value):upd (upd ρ d u) e v=upd (upd ρ e v) d u:=by
 funext x;unfold upd;by_cases b:x=e<;>by_cases c:x=d<;>simp [b,c];exact absurd (c.symm.trans b) h;intro a;exact absurd a.symm h;intro a;exact absurd a h
theorem XL_join {u v du dv:Nat}{j m:Oper}(f:Value->Value->World->Prop)
  (D:XL P I N ops κ (λ_ b w'=> ∃c vb,b=upd (upd ρ du c) dv vb/\I w'/\f c vb w') M [u,v] [j,m] ρ w)
  (E:XL P I N ops κ (λ_ b w'=> ∃c vb,b=upd (upd ρ du c) dv vb/\I w'/\f c vb w') M [v,u] [m,j] ρ w)
  (post: ∀s c vb w',f c vb w'->XL P I N ops κ K s σ rest (upd (upd ρ du c) dv vb) w'):
  XL P I N ops κ K M (u::v::σ) (j::m::rest) ρ w/\XL P I N ops κ K M (v::u::σ) (m::j::rest) ρ w:=by
 have C: ∀{p q:Nat}{op n:Oper},XL P I N ops κ (λ_ b w'=> ∃c vb,b=upd (upd ρ du c) dv vb/\I w'/\f c vb w') M [p,q] [op,n] ρ w->XL P I N ops κ K M (p::q::σ) (op::n::rest) ρ w:=by
  intro p q op n h o w' t F a G;have x:rest.map some=σ.map λi=>ops[i]? :=XL.tail (XL.tail o)
  have y:[op,n].map some=[p,q].map λi=>ops[i]? :=by
   simp only [List.map_cons,List.cons.injEq,List.map_nil]at o⊢;exact⟨o.1,o.2.1,trivial⟩
  have H:=h y w' t F a G;have e:p::q::σ=[p,q]++σ:=rfl;rw [e,vX];refine nT (λs a z ⟨b,J,c,vb,A,B,hm⟩=>?_) [p,q] M a w' H;subst A;exact post s c vb z hm x z (fJ.refl z) B a J
 exact⟨C D,C E⟩
theorem WP_fork {id:Nat}{l:List Oper}{I0:World->Prop}(pre:List Nat)(u v:Nat)(post l2:List Nat)(κ:List Kd)(p: ∀i B,kdOf κ i= .mk B-> ∀w,I w->B<=w.heap.size)(q: ∀i B,kdOf κ i= .mk B-> ∀w,I0 w->B<=w.heap.size)(hm:P.follows .mixedOrders=true)(E:Region.noSelect l.toArray=true)(s:edgesB .any l.toArray=true)(F:forkB .any l.toArray (kdOf κ) pre u v post=true)(G:barB .any l.toArray (kdOf κ) (pre++u::v::post) l2=true)(t:pairB .any l.toArray (kdOf κ) l2=true)
  (c:(pre++u::v::(post++l2)).isPerm (List.range l.length)=true)(n: ∀w w',I w->fJ w w'->I w')(y: ∀w w',I0 w->fJ w w'->I0 w')(z:I w)
  (h:XL P I N l.toArray κ (λM ρ w=>XL P I N l.toArray κ (λ_ ρ w=>I0 w/\XL P I0 N l.toArray κ (λ_ ρ w=>Q .normal ρ w) none l2 (sel l l2) ρ w) M (u::v::post) (sel l (u::v::post)) ρ w/\XL P I N l.toArray κ (λ_ ρ w=>I0 w/\XL P I0 N l.toArray κ (λ_ ρ w=>Q .normal ρ w) none l2 (sel l l2) ρ w) M (v::u::post) (sel l (v::u::post)) ρ w) (some λ_=>False) pre (sel l pre) ρ w):WP P N (.region id l.toArray true) Q ρ w:=by
 have c:(pre++u::v::(post++l2)).Perm (List.range l.length):=List.isPerm_iff.1 c;have f: ∀i∈pre++u::v::(post++l2),i<l.length:=λi hi=>List.mem_range.1 (c.mem_iff.1 hi)
 intro a H;refine aMa (I:=I) (I0:=I0) (pre:=pre) (post:=post) (l2:=l2) (u:=u) (v:=v) p q hm E s F G t c n y z (λw' j=>?_);have J:=h (aGf l pre λi hi=>f i (List.mem_append_left _ hi)) w' j (n _ _ z j) a H;have L:=aRy n pre _ a w' (n _ _ z j) (λ_ e _ C=>by cases e;exact C.elim) J;have fin: ∀{a w},(∃b,Fits N a b/\(I0 w/\XL P I0 N l.toArray κ (λ_ ρ w=>Q .normal ρ w) none l2 (sel l l2) b w))->I0 w/\bW P I0 l.toArray (kdOf κ) (λ_ a w=> ∃b,Fits N a b/\Q .normal b w) l2 none a w:=λ {a w} ⟨b,o,D,C⟩=>
  ⟨D,C (aGf l l2 λi hi=>f i (List.mem_append_right _ (List.mem_cons_of_mem _ (List.mem_cons_of_mem _ (List.mem_append_right _ hi))))) w (fJ.refl w) D a o⟩
 refine nT (λM a w ⟨m,b,o,O,p⟩=>⟨?_,?_⟩) pre _ a w' L
 ·exact nT (λ_ _ _ h=>fin h) _ _ _ _ (O (aGf l _ λi hi=>f i (List.mem_append_right _ (by simp at hi⊢;rcases hi with h|h|h<;>simp [h]))) w (fJ.refl w) m a o)
 ·exact nT (λ_ _ _ h=>fin h) _ _ _ _ (p (aGf l _ λi hi=>f i (List.mem_append_right _ (by simp at hi⊢;rcases hi with h|h|h<;>simp [h]))) w (fJ.refl w) m a o)
end
end Go.MxM
