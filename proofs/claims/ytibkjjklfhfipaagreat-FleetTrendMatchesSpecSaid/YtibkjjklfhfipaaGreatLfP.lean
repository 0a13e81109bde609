/- Laws that the claim stands on; no condition beyond those stated. -/
import Derived.Test.YtibkjjklfhfipaaGreatObB
import Derived.Lib.AppendStr
namespace Go.Lf
open Go.RowKit Go.OB

section plain
variable {α β γ:Type}
def gJ (a:α)(k:α->Option β):Option β:=k a
def gG (a:Option α)(k:α->Option β):Option β:=
 match a with
 |some x=>k x
 |none=>none
def gQ (b:Bool)(x y:Option β):Option β:=
 match b with
 |true=>x
 |false=>y
def eY (k:γ->Option β)(m:(γ->Option β)->Option β):Option β:=m k
def eQ (body:(γ->Option β)->γ->Option β):Nat->γ->Option β
 |0,_=>none
 |n+1,g=>body (eQ body n) g
@[irreducible] def FU:Nat:=18446744073709551616
def fB (body:(γ->Option β)->γ->Option β) (g:γ):Option β:=eQ body FU g
theorem letO_some {a:α}{k:α->Option β}{r:β}(h:gJ a k=some r): ∃t,a=t/\k t=some r:=⟨a,rfl,h⟩
theorem yR {a:Option α}{k:α->Option β}{r:β}(h:gG a k=some r): ∃t,a=some t/\k t=some r:=by
 cases a with
 |none=>cases h
 |some x=>exact⟨x,rfl,h⟩
theorem aAj {b:Bool}{x y:Option β}{r:β}(c:b=true)(h:gQ b x y=some r):x=some r:=by subst c;exact h
theorem aAm {b:Bool}{x y:Option β}{r:β}(c:b=false)(h:gQ b x y=some r):y=some r:=by subst c;exact h
theorem bAl {body:(γ->Option β)->γ->Option β}{g:γ}{r:β}(h:fB body g=some r): ∃B n,B=body/\eQ B n g=some r:=⟨body,FU,rfl,h⟩
theorem loopN_pos {B:(γ->Option β)->γ->Option β}{n:Nat}{g:γ}{r:β}(h:eQ B n g=some r): ∃m,n=m+1/\B (eQ B m) g=some r:=by
 cases n with
 |zero=>cases h
 |succ m=>exact⟨m,rfl,h⟩
def at' (l:List α)(i:Int):Option α:=if 0<=i then l[i.toNat]? else none
def set' (l:List α)(i:Int)(x:α):Option (List α):=if 0<=i/\i<l.length then some (l.set i.toNat x)else none
def sub' (l:List α)(i j:Int):Option (List α):=if 0<=i/\i<=j/\j<=l.length then some ((l.drop i.toNat).take (j-i).toNat)else none
def app' (f:Nat)(l m:List α):Option (List α):=if l.length+m.length<=maxLen/\(l.length+m.length)*f<=140737488355328 then some (l++m)else none
def make' (f:Nat)(n:Int)(z:α):Option (List α):=if 0<=n/\f*n.toNat<=140737488355328/\n<=9223372036854775807 then some (List.replicate n.toNat z)else none
def tY (k:IntKind)(a b:Int):Option Int:=if b=0 then none else some (k.wrap (a.tdiv b))
def qN (a b:Int):Option Int:=if b=0 then none else some (a.tmod b)
def aDs (k:IntKind)(a b:Int):Option Int:=if 0<=b/\b<=k.bits then some (a/2^b.toNat)else none
theorem zV {l:List α}{i:Int}{x:α} (h:at' l i=some x):0<=i/\i<l.length/\l[i.toNat]? =some x:=by
 unfold at' at h;split at h;have:=(gS.1 h).1;exact⟨by assumption,by omega,h⟩;cases h
theorem aUa {l m:List α}{i:Int}{x:α}(h:set' l i x=some m):0<=i/\i<l.length/\m=l.set i.toNat x:=by
 unfold set' at h;split at h;rename_i c;cases h;exact⟨c.1,c.2,rfl⟩;cases h
theorem aUj {l m:List α}{i j:Int}(h:sub' l i j=some m):0<=i/\i<=j/\j<=l.length/\m=(l.drop i.toNat).take (j-i).toNat:=by
 unfold sub' at h;split at h;rename_i c;cases h;exact⟨c.1,c.2.1,c.2.2,rfl⟩;cases h
theorem aMd {f:Nat}{l m r:List α}(h:app' f l m=some r):l.length+m.length<=maxLen/\(l.length+m.length)*f<=140737488355328/\r=l++m:=by
 unfold app' at h;split at h;rename_i c;cases h;exact⟨c.1,c.2,rfl⟩;cases h
theorem aDh {f:Nat}{n:Int}{z:α}{r:List α}(h:make' f n z=some r):0<=n/\f*n.toNat<=140737488355328/\n<=9223372036854775807/\r=List.replicate n.toNat z:=by
 unfold make' at h;split at h;rename_i c;cases h;exact⟨c.1,c.2.1,c.2.2,rfl⟩;cases h
theorem quo_some {k:IntKind}{a b c:Int}(h:tY k a b=some c):b≠0/\k.wrap (a.tdiv b)=c:=by
 unfold tY at h;split at h;cases h;cases h;exact⟨by assumption,rfl⟩
theorem rem_some {a b c:Int}(h:qN a b=some c):b≠0/\a.tmod b=c:=by
 unfold qN at h;split at h;cases h;cases h;exact⟨by assumption,rfl⟩
theorem shr_some {k:IntKind}{a b c:Int}(h:aDs k a b=some c):0<=b/\b<=k.bits/\a/2^b.toNat=c:=by
 unfold aDs at h;split at h;rename_i q;cases h;exact⟨q.1,q.2,rfl⟩;cases h
end plain
abbrev Str:=List UInt8
def bs (s:Str):ByteArray:=⟨s.toArray⟩
theorem bCp (s:Str):(bs s).size=s.length:=by simp [bs,ByteArray.size]
theorem bs_inj {s t:Str}:bs s=bs t↔s=t:=by
 constructor;intro h;have:=congrArg (λb:ByteArray=>b.data.toList) h;simpa [bs]using this;intro h;rw [h]

def Same (F F':Nat->Prop)(w w':World):Prop:= ∀b,F b->b<w.heap.size->F' b/\w'.heap[b]? =w.heap[b]?
structure Rp (α:Type) where
 sz:Nat
 rd:(Nat->Prop)->World->List Value->α->Prop
 len: ∀{F w cs x},rd F w cs x->cs.length=sz
 one: ∀{F w cs x},rd F w cs x-> ∀v∈cs,v.oneCell'=true
 mono: ∀{F F' w w' cs x},Same F F' w w'->rd F w cs x->rd F' w' cs x
section rp
variable {α β:Type}{F F':Nat->Prop}{w w':World}
def Rp.int (k:IntKind):Rp Int:=⟨1,λ_ _ cs x=>cs=[.int k x],λh=>by subst h;rfl,λh=>by subst h;simp [Value.oneCell'],λ_ h=>h⟩
def Rp.bool:Rp Bool:=⟨1,λ_ _ cs x=>cs=[.bool x],λh=>by subst h;rfl,λh=>by subst h;simp [Value.oneCell'],λ_ h=>h⟩
def Rp.str:Rp Str:=⟨1,λ_ _ cs x=>cs=[.string (bs x)],λh=>by subst h;rfl,λh=>by subst h;simp [Value.oneCell'],λ_ h=>h⟩
def Rp.pair (a:Rp α)(b:Rp β):Rp (α×β):=
  ⟨a.sz+b.sz,λF w cs x=> ∃c d,cs=c++d/\a.rd F w c x.1/\b.rd F w d x.2,
   λ⟨c,d,e,f,h⟩=>by subst e;simp [a.len f,b.len h],
   λ⟨c,d,e,f,h⟩=>by subst e;intro v A;exact(mA.1 A).elim (a.one f v) (b.one h v),
   λp ⟨c,d,e,f,h⟩=>⟨c,d,e,a.mono p f,b.mono p h⟩⟩
def Rp.iso (a:Rp α)(f:β->α):Rp β:=⟨a.sz,λF w cs x=>a.rd F w cs (f x),λh=>a.len h,λh=>a.one h,λp h=>a.mono p h⟩
def rows (r:Rp α)(F:Nat->Prop)(w:World):List Value->List α->Prop
 |cs,[]=>cs=[]
 |cs,x::l=> ∃c d,cs=c++d/\r.rd F w c x/\rows r F w d l
theorem nC {r:Rp α}: ∀{l:List α}{cs:List Value},rows r F w cs l->cs.length=l.length*r.sz
 | [],cs,h=>by unfold rows at h;subst h;simp
 |x::l,cs,h=>by
  obtain⟨c,d,rfl,f,p⟩:=h;have:=nC p;simp [r.len f,this,Nat.add_mul];omega
theorem aLu {r:Rp α}: ∀{l:List α}{cs:List Value},rows r F w cs l-> ∀v∈cs,v.oneCell'=true
 | [],cs,h=>by unfold rows at h;subst h;simp
 |x::l,cs,h=>by
  obtain⟨c,d,rfl,f,p⟩:=h;intro v A;rcases mA.1 A with h|h
  ·exact r.one f v h
  ·exact aLu p v h
theorem aU {r:Rp α}(f:Same F F' w w'): ∀{l:List α}{cs:List Value},rows r F w cs l->rows r F' w' cs l
 | [],_,h=>h
 |_::_,_,h=>by
  obtain⟨c,d,rfl,p,A⟩:=h;exact⟨c,d,rfl,r.mono f p,aU f A⟩
theorem vI {r:Rp α}: ∀{l m:List α}{cs ds:List Value},rows r F w cs l->rows r F w ds m->rows r F w (cs++ds) (l++m)
 | [],m,cs,ds,h,k=>by unfold rows at h;subst h;simpa using k
 |x::l,m,cs,ds,h,k=>by
  obtain⟨c,d,rfl,f,p⟩:=h;exact⟨c,d++ds,by simp,f,vI p k⟩
theorem aBu {r:Rp α}{c:List Value}{x:α}(h:r.rd F w c x):rows r F w c [x]:=⟨c,[],by simp,h,rfl⟩
theorem uQ {r:Rp α}: ∀(i:Nat) {l:List α}{cs:List Value},rows r F w cs l->rows r F w (cs.drop (i*r.sz)) (l.drop i)
 |0,l,cs,h=>by simpa using h
 |i+1,[],cs,h=>by unfold rows at h;subst h;simp [rows]
 |i+1,x::l,cs,h=>by
  obtain⟨c,d,rfl,f,p⟩:=h;have A:=r.len f;rw [show(i+1)*r.sz=c.length+i*r.sz by rw [A,Nat.add_mul];omega,List.drop_append,List.drop_eq_nil_of_le (by omega),List.nil_append,show c.length+i*r.sz-c.length=i*r.sz by omega];exact uQ i p
theorem xZ {r:Rp α}: ∀(i:Nat) {l:List α}{cs:List Value},rows r F w cs l->rows r F w (cs.take (i*r.sz)) (l.take i)
 |0,l,cs,h=>by simp [rows]
 |i+1,[],cs,h=>by unfold rows at h;subst h;simp [rows]
 |i+1,x::l,cs,h=>by
  obtain⟨c,d,rfl,f,p⟩:=h;have A:=r.len f;refine⟨c,d.take (i*r.sz),?_,f,xZ i p⟩;rw [show(i+1)*r.sz=c.length+i*r.sz by rw [A,Nat.add_mul];omega,List.take_append,List.take_of_length_le (by omega),show c.length+i*r.sz-c.length=i*r.sz by omega]
theorem aLc {r:Rp α}{l:List α}{cs:List Value}{i:Nat}{x:α}(h:rows r F w cs l)(p:l[i]? =some x):r.rd F w ((cs.drop (i*r.sz)).take r.sz) x:=by
 have A:=uQ i h;have hi:=(gS.1 p).1;have e:l.drop i=x::l.drop (i+1):=by
  rw [List.drop_eq_getElem_cons hi];congr 1;exact(gS.1 p).2
 rw [e]at A;obtain⟨c,d,f,B,_⟩:=A;rw [f,<-r.len B,List.take_left']
 ·exact B
 ·rfl
theorem aVx {r:Rp α}{l:List α}{cs c:List Value}{i:Nat}{x:α}(h:rows r F w cs l)(hi:i<l.length)(f:r.rd F w c x):rows r F w (splice cs (i*r.sz) c) (l.set i x):=by
 have p:=xZ i h;have A:=uQ (i+1) h;have e:l.set i x=l.take i++([x]++l.drop (i+1)):=by rw [List.set_eq_take_append_cons_drop,if_pos hi];simp
 rw [e];unfold splice;rw [List.append_assoc];refine vI p (vI (aBu f) ?_);rw [r.len f,show i*r.sz+r.sz=(i+1)*r.sz by rw [Nat.add_mul];omega];exact A
def SlF (r:Rp α)(F:Nat->Prop)(w:World)(v:Value)(l:List α):Prop:=
 ∃xs,rows r F w xs l/\SlR w v r.sz l.length xs/\(0<l.length-> ∀b,kT v=some b->F b/\b<w.heap.size)
theorem SlR.same {s n:Nat}{v:Value}{xs:List Value} (h:SlR w v s n xs) (C:0<n-> ∀b,kT v=some b->w'.heap[b]? =w.heap[b]?):SlR w' v s n xs:=by
 obtain⟨B,h⟩:=h;refine⟨B,?_⟩;rcases h with h|⟨a,f,rfl,D,E,G,H⟩
 ·exact .inl h
 ·refine .inr ⟨a,f,rfl,D,E,G,?_⟩;rcases Nat.eq_zero_or_pos n with p|p
  ·intro i v A;have:=(gS.1 A).1;rw [B,p]at this;omega
  ·intro i v A;have I:=C p a.block rfl;have:=H i v A;rw [World.cell?_of_block (w:=w) (by rw [Addr.add_block];exact I)];exact this
theorem SlF.mono {r:Rp α}{v:Value}{l:List α}(B:Same F F' w w')(h:SlF r F w v l):SlF r F' w' v l:=by
 obtain⟨xs,D,E,C⟩:=h;refine⟨xs,aU B D,SlR.same E λf b A=>(B b (C f b A).1 (C f b A).2).2,λf b A=>?_⟩;have q:=C f b A;have p:=B b q.1 q.2;refine⟨p.1,?_⟩;have e:w.heap[b]? =some w.heap[b]:=Array.getElem?_eq_getElem q.2;rw [e]at p;exact(Array.getElem?_eq_some_iff.1 p.2).1
theorem SlR.one {s n:Nat}{v:Value}{xs:List Value}(h:SlR w v s n xs):v.oneCell'=true:=by
 obtain⟨a,c,rfl⟩:=h.shape;rfl
def Rp.sl (r:Rp α):Rp (List α):=
 ⟨1,λF w cs l=> ∃v,cs=[v]/\SlF r F w v l,λ⟨v,e,_⟩=>by subst e;rfl,λ⟨v,e,_,_,f,_⟩=>by subst e;simpa using SlR.one f,λp ⟨v,e,h⟩=>⟨v,e,SlF.mono p h⟩⟩
theorem SlF.nil {r:Rp α}:SlF r F w (.slice none 0 0) []:=⟨[],rfl,SlR.nil,λh=>by simp at h⟩
theorem SlF.len {r:Rp α}{v:Value}{l:List α}(h:SlF r F w v l): ∃a c,v= .slice a l.length c:=h.choose_spec.2.1.shape
end rp

structure Fz where
 p:(Nat->Prop)->World->Prop
 mono: ∀{F F' w w'},Same F F' w w'->p F w->p F' w'
def Fz.sl {α:Type}(r:Rp α)(v:Value)(l:List α):Fz:=⟨λF w=>SlF r F w v l,λf h=>SlF.mono f h⟩
theorem Cells.same {F F':Nat->Prop}{w w':World}{b o:Nat}{cs:List Value} (A:Same F F' w w') (B:F b) (f:b<w.heap.size) (h:Cells w ⟨b,o,none⟩ cs):F' b/\b<w'.heap.size/\Cells w' ⟨b,o,none⟩ cs:=by
 have p:=A b B f;refine⟨p.1,?_,λi v C=>?_⟩;have e:w.heap[b]? =some w.heap[b]:=Array.getElem?_eq_getElem f;rw [e]at p;exact(Array.getElem?_eq_some_iff.1 p.2).1;rw [World.cell?_of_block (w:=w) (by rw [Addr.add_block];exact p.2)];exact h i v C
def Fz.at (b o:Nat)(cs:List Value):Fz:=⟨λF w=>F b/\b<w.heap.size/\Cells w ⟨b,o,none⟩ cs,λf ⟨h,p,A⟩=>Cells.same f h p A⟩
structure Rt (α:Type) where
 sz:Nat
 rd:(Nat->Prop)->World->List Value->List Nat->α->Prop
 len: ∀{F w cs bs x},rd F w cs bs x->cs.length=sz
 one: ∀{F w cs bs x},rd F w cs bs x-> ∀v∈cs,v.oneCell'=true
 mono: ∀{F F' w w' cs bs x},Same F F' w w'->(∀b∈bs,w'.heap[b]? =w.heap[b]?)->rd F w cs bs x->rd F' w' cs bs x
inductive Th:Type 1 where
 |tr {α:Type} (r:Rt α) (cs:List Value) (bs:List Nat) (x:α)
 |blk (b:Nat) (cs:List Value) (T:TypeId)
 |arr {α:Type} (r:Rp α) (b:Nat) (l:List α) (T:TypeId)
 |own {α:Type} (r:Rp α) (v:Value) (e:TypeId) (l:List α)
 |mp (b:Nat) (m:List (Value×Value))
 |fz (p:Fz)
def Th.blocks:Th->List Nat
 | .tr _ _ bs _=>bs
 | .blk b _ _=>[b]
 | .arr _ b _ _=>[b]
 | .own _ v _ _=>ob v
 | .mp b _=>[b]
 | .fz _=>[]
def Th.holds (F:Nat->Prop)(w:World):Th->Prop
 | .tr r cs bs x=>r.rd F w cs bs x
 | .blk b cs T=>Blk w b cs T
 | .arr r b l T=> ∃xs,rows r F w xs l/\Blk w b xs T
 | .own r v e l=> ∃xs,rows r F w xs l/\w.ownsRow 0 e r.sz v l.length xs
 | .mp b m=> ∃(f:Array MapEntry) (c:Nat),w.heap[b]? =some (.map f c)/\f.toList.map (λe=>(e.key,e.val))=m
 | .fz p=>p.p F w
def bks (l:List Th):List Nat:=l.flatMap Th.blocks
def frees (O:List Nat)(l:List Th):Nat->Prop:=λb=>b∉O/\b∉bks l
structure Hd (O:List Nat)(w0 w:World)(S:List Nat)(l:List Th):Prop where
 only:Only S w0 w
 holds: ∀it∈l,it.holds (frees O l) w
 own: ∀it∈l,∀b∈it.blocks,(w0.heap.size<=b\/b∈S)/\b<w.heap.size
 nd:(bks l).Nodup
 fo: ∀b∈O,b<w0.heap.size/\b∉S
theorem nZ {w w':World}{b:Nat}{cs:List Value}{T:TypeId}(h:Blk w b cs T)(e:w'.heap[b]? =w.heap[b]?):Blk w' b cs T:=by unfold Blk at *;rw [e];exact h
theorem owns_same {w w':World}{B:Nat}{v:Value}{e s n:Nat}{xs:List Value} (h:w.ownsRow B e s v n xs) (A: ∀b∈ob v,w'.heap[b]? =w.heap[b]?):w'.ownsRow B e s v n xs:=by
 refine⟨h.1,?_⟩;rcases h.2 with C|⟨g,f,p,rfl,D,E,rest⟩
 ·exact .inl C
 ·refine .inr ⟨g,f,p,rfl,D,?_,rest⟩;rw [A g (by simp [ob,kT])];exact E
theorem Th.same {F F':Nat->Prop}{w w':World}{it:Th}(h:it.holds F w)(C:Same F F' w w')(f: ∀b∈it.blocks,w'.heap[b]? =w.heap[b]?):it.holds F' w':=by
 cases it with
 |tr r cs bs x=>exact r.mono C f h
 |blk b cs T=>exact nZ h (f b (by simp [Th.blocks]))
 |arr r b l T=>obtain⟨xs,A,B⟩:=h;exact⟨xs,aU C A,nZ B (f b (by simp [Th.blocks]))⟩
 |own r v e l=>obtain⟨xs,A,B⟩:=h;exact⟨xs,aU C A,owns_same B f⟩
 |mp b m=>obtain⟨D,c,A,B⟩:=h;exact⟨D,c,(f b (by simp [Th.blocks])).trans A,B⟩
 |fz p=>exact p.mono C h
theorem dV {l:List Th}{b:Nat}:b∈bks l↔ ∃it∈l,b∈it.blocks:=List.mem_flatMap
theorem qQ (l m:List Th):bks (l++m)=bks l++bks m:=by simp [bks]
theorem rM {l:List Th}:(bks l).Nodup↔(∀it∈l,it.blocks.Nodup)/\l.Pairwise λa b=> ∀x∈a.blocks,∀y∈b.blocks,x≠y:=by
 unfold bks List.Nodup;exact List.pairwise_flatMap
section sep
variable {O S:List Nat}{w0 w w':World}{l:List Th}{i:Nat}
theorem Hd.V (H:Hd O w0 w S l){it:Th}(hi:l[i]? =some it):it.holds (frees O l) w:=H.holds it (qS hi)
theorem Hd.lt (H:Hd O w0 w S l){b:Nat}(f:b∈bks l):b<w.heap.size:=by
 obtain⟨it,hm,f⟩:=dV.1 f;exact(H.own it hm b f).2
theorem vO {w w':World}(f:Only [] w w'){b:Nat}(h:b<w.heap.size):w'.heap[b]? =w.heap[b]? :=f.block b h (by simp)
theorem Hd.step (H:Hd O w0 w S l)(h:Only [] w w'):Hd O w0 w' S l:=
  ⟨H.only.trans (h.mono (by simp)),λit hm=>Th.same (H.holds it hm) (λb f p=>⟨f,vO h p⟩) (λb f=>vO h (H.own it hm b f).2),
   λit hm b f=>⟨(H.own it hm b f).1,Nat.lt_of_lt_of_le (H.own it hm b f).2 h.size⟩,H.nd,H.fo⟩
theorem Hd.Z (H:Hd O w0 w S l)(f:fK w w'):Hd O w0 w' S l:=H.step (Only.of_below f)
theorem Hd.add (H:Hd O w0 w S l) (C:Only [] w w') {it:Th} (hh:Same (frees O l) (frees O (l++[it])) w w'->it.holds (frees O (l++[it])) w') (A: ∀b∈it.blocks,w.heap.size<=b/\b<w'.heap.size) (E:it.blocks.Nodup):Hd O w0 w' S (l++[it]):=by
 have D:Same (frees O l) (frees O (l++[it])) w w':=by
  intro b B G;refine⟨⟨B.1,?_⟩,vO C G⟩;rw [qQ,mA];rintro(h|h)
  ·exact B.2 h
  ·have:=(A b (by simpa [bks]using h)).1;omega
 refine⟨H.only.trans (C.mono (by simp)),?_,?_,?_,H.fo⟩
 ·intro x f;rcases mA.1 f with f|f
  ·exact Th.same (H.holds x f) D (λb A=>vO C (H.own x f b A).2)
  ·obtain rfl:=mS.1 f;exact hh D
 ·intro x f b p;rcases mA.1 f with f|f
  ·exact⟨(H.own x f b p).1,Nat.lt_of_lt_of_le (H.own x f b p).2 C.size⟩
  ·obtain rfl:=mS.1 f;exact⟨.inl (Nat.le_trans H.only.size (A b p).1),(A b p).2⟩
 ·rw [qQ,List.nodup_append];refine⟨H.nd,by simpa [bks]using E,?_⟩;intro a I c J;have:=H.lt I;have:=(A c (by simpa [bks]using J)).1;omega
theorem Hd.fz (H:Hd O w0 w S l)(p:Fz)(f:p.p (frees O l) w):Hd O w0 w S (l++[.fz p]):=
 H.add (Only.refl [] w) (λh=>p.mono h f) (by simp [Th.blocks]) (by simp [Th.blocks])
theorem Hd.alloc {b:Nat}{cs:List Value}{T:TypeId}(H:Hd O w0 w S l)(f:Al w w' b cs T):Hd O w0 w' S (l++[.blk b cs T]):=
 H.add f.only (λ_=>f.blk) (by intro c h;obtain rfl:=mS.1 h;exact⟨Nat.le_of_eq f.at_.symm,by rw [f.at_,f.size];omega⟩) (by simp [Th.blocks])
theorem xY (v:Value):(ob v).Nodup:=by unfold ob;cases kT v<;>simp
theorem Hd.turn (H:Hd O w0 w S l) {it p:Th} (hi:l[i]? =some it) (E:Only it.blocks w w') (hh:Same (frees O l) (frees O (l.set i p)) w w'->p.holds (frees O (l.set i p)) w')
  (G: ∀b∈p.blocks,(b∈it.blocks\/w.heap.size<=b)/\b<w'.heap.size) (hn:p.blocks.Nodup):Hd O w0 w' S (l.set i p):=by
 have J:=(gS.1 hi).1;have e1:l=l.take i++it::l.drop (i+1):=by
  have:=List.take_append_drop i l;rw [List.drop_eq_getElem_cons J,(gS.1 hi).2]at this;exact this.symm
 have e2:l.set i p=l.take i++p::l.drop (i+1):=by rw [List.set_eq_take_append_cons_drop,if_pos J]
 have I:=H.nd;rw [rM]at I;have hp:=I.2;rw [e1,List.pairwise_append,List.pairwise_cons]at hp;obtain⟨p1,⟨p2,p3⟩,p4⟩:=hp;have A: ∀x∈l.take i++l.drop (i+1),(∀b∈x.blocks,b∉it.blocks/\b<w.heap.size)/\x∈l:=by
  intro x f;have L:x∈l:=by
   rcases mA.1 f with h|h
   ·exact List.mem_of_mem_take h
   ·exact List.mem_of_mem_drop h
  refine⟨λb G=>⟨λM=>?_,(H.own x L b G).2⟩,L⟩;rcases mA.1 f with h|h
  ·exact p4 x h it List.mem_cons_self b G b M rfl
  ·exact p2 x h b M b G rfl
 have C: ∀x,x∈l.set i p↔x=p\/x∈l.take i++l.drop (i+1):=by
  intro x;rw [e2];simp only [mA,List.mem_cons];constructor
  ·rintro(h|h|h)
   ·exact .inr (.inl h)
   ·exact .inl h
   ·exact .inr (.inr h)
  ·rintro(h|h|h)
   ·exact .inr (.inl h)
   ·exact .inl h
   ·exact .inr (.inr h)
 have itm:it∈l:=qS hi;have same:Same (frees O l) (frees O (l.set i p)) w w':=by
  intro b D hl;refine⟨⟨D.1,λhm=>?_⟩,E.block b hl (λh=>D.2 (dV.2 ⟨it,itm,h⟩))⟩;obtain⟨x,f,B⟩:=dV.1 hm;rcases(C x).1 f with rfl|f
  ·rcases(G b B).1 with h|h
   ·exact D.2 (dV.2 ⟨it,itm,h⟩)
   ·omega
  ·exact D.2 (dV.2 ⟨x,(A x f).2,B⟩)
 refine⟨⟨E.os.trans H.only.os,E.tape.trans H.only.tape,E.output.trans H.only.output,Nat.le_trans H.only.size E.size,λk hk R=>?_⟩,?_,?_,?_,H.fo⟩
 ·have ab:=Nat.lt_of_lt_of_le hk H.only.size;rw [E.block k ab (λh=>?_),H.only.block k hk R];rcases(H.own it itm k h).1 with h|h
  ·omega
  ·exact R h
 ·intro x f;rcases(C x).1 f with rfl|f
  ·exact hh same
  ·exact Th.same (H.holds x (A x f).2) same (λb X=>E.block b ((A x f).1 b X).2 ((A x f).1 b X).1)
 ·intro x f b B;rcases(C x).1 f with rfl|f
  ·refine⟨?_,(G b B).2⟩;rcases(G b B).1 with h|h
   ·exact(H.own it itm b h).1
   ·exact .inl (Nat.le_trans H.only.size h)
  ·exact⟨(H.own x (A x f).2 b B).1,Nat.lt_of_lt_of_le ((A x f).1 b B).2 E.size⟩
 ·rw [rM];refine⟨λx f=>?_,?_⟩
  ·rcases(C x).1 f with rfl|f
   ·exact hn
   ·exact I.1 x (A x f).2
  ·rw [e2,List.pairwise_append,List.pairwise_cons];have Y: ∀x∈l.take i++l.drop (i+1),∀a∈x.blocks,∀c∈p.blocks,a≠c:=by
    intro x f a ha c hc e;subst e;rcases(G a hc).1 with h|h
    ·exact((A x f).1 a ha).1 h
    ·have:=((A x f).1 a ha).2;omega
   refine⟨p1,⟨λx f a ha c hc e=>Y x (List.mem_append_right _ f) c hc a ha e.symm,p3⟩,?_⟩;intro x f y hy;rcases List.mem_cons.1 hy with rfl|hy
   ·exact Y x (List.mem_append_left _ f)
   ·exact p4 x f y (List.mem_cons_of_mem _ hy)
theorem Hd.wr {b:Nat}{cs f:List Value}{T:TypeId}(H:Hd O w0 w S l)(hi:l[i]? =some (.blk b cs T))(h:Wr w w' b f T):Hd O w0 w' S (l.set i (.blk b f T)):=
 H.turn hi h.only (λ_=>h.blk) (by intro c p;obtain rfl:=mS.1 p;exact⟨.inl (by simp [Th.blocks]),h.blk.lt⟩) (by simp [Th.blocks])
theorem Hd.apart (H:Hd O w0 w S l){j:Nat}{it x:Th}(hi:l[i]? =some it)(p:l[j]? =some x)(E:i≠j): ∀b∈it.blocks,b∉x.blocks:=by
 have A:=(rM.1 H.nd).2;rw [List.pairwise_iff_getElem]at A;obtain⟨B,hi⟩:=gS.1 hi;obtain⟨C,p⟩:=gS.1 p;intro b D f;rcases Nat.lt_or_gt_of_ne E with h|h
 ·exact A i j B C h b (hi▸D) b (p▸f) rfl
 ·exact A j i C B h b (p▸f) b (hi▸D) rfl
theorem Hd.notO (H:Hd O w0 w S l){it:Th}(hm:it∈l){b:Nat}(f:b∈it.blocks):b∉O:=by
 intro p;have:=H.fo b p;rcases(H.own it hm b f).1 with h|h
 ·omega
 ·exact this.2 h
theorem aSe {l:List Th}{i:Nat}{p:Th}{b:Nat} (h:b∈bks (l.set i p)):b∈p.blocks\/ ∃j x,j≠i/\l[j]? =some x/\b∈x.blocks:=by
 obtain⟨x,C,B⟩:=dV.1 h;obtain⟨j,f⟩:=List.getElem?_of_mem C;rw [List.getElem?_set]at f;split at f;split at f;cases f;exact .inl B;cases f;rename_i A;exact .inr ⟨j,x,λe=>A e.symm,f,B⟩
theorem Hd.freeze {α:Type}{r:Rp α}{v:Value}{e:TypeId}{xl:List α}(H:Hd O w0 w S l)(hi:l[i]? =some (.own r v e xl)):Hd O w0 w S (l.set i (.fz (.sl r v xl))):=by
 refine H.turn hi (Only.refl _ w) (λA=>?_) (by simp [Th.blocks]) (by simp [Th.blocks]);obtain⟨xs,B,C⟩:=H.V hi;refine⟨xs,aU A B,aLl C,λ_ b D=>?_⟩;have f:b∈(Th.own r v e xl).blocks:=wR.2 D;refine⟨⟨H.notO (qS hi) f,λhm=>?_⟩,(H.own _ (qS hi) b f).2⟩;rcases aSe hm with h|⟨j,x,E,G,p⟩
 ·simp [Th.blocks]at h
 ·exact H.apart G hi E b p f
def pick (idx:List Nat)(l:List Th):List Th:=idx.filterMap (λi=>l[i]?)
theorem mZ {idx:List Nat}{x:Th}:x∈pick idx l↔ ∃i∈idx,l[i]? =some x:=by unfold pick;rw [List.mem_filterMap]
theorem aMp {idx:List Nat}{b:Nat}(h:b∈bks (pick idx l)): ∃i∈idx,∃x,l[i]? =some x/\b∈x.blocks:=by
 obtain⟨x,f,p⟩:=dV.1 h;obtain⟨i,hi,f⟩:=mZ.1 f;exact⟨i,hi,x,f,p⟩
theorem xI {idx:List Nat}{b:Nat}(h:b∈bks (pick idx l)):b∈bks l:=by
 obtain⟨i,_,x,f,p⟩:=aMp h;exact dV.2 ⟨x,qS f,p⟩
theorem Hd.pick_nd (H:Hd O w0 w S l) {idx:List Nat} (p:idx.Nodup):(bks (pick idx l)).Nodup:=by
 rw [rM];refine⟨λx f=>?_,?_⟩;obtain⟨i,_,f⟩:=mZ.1 f;exact(rM.1 H.nd).1 x (qS f);unfold pick;rw [List.pairwise_filterMap];exact p.imp λ {i j} h x f y A a B c C e=>by subst e;exact H.apart f A h a B C
theorem Hd.U (H:Hd O w0 w S l) (idx:List Nat) (A:idx.Nodup:=by decide):Hd O w0 w S (pick idx l):=by
 refine⟨H.only,λx f=>?_,λx f b p=>?_,H.pick_nd A,H.fo⟩;obtain⟨i,_,f⟩:=mZ.1 f;exact Th.same (H.V f) (λb p _=>⟨⟨p.1,λh=>p.2 (xI h)⟩,rfl⟩) (λ_ _=>rfl);obtain⟨i,_,f⟩:=mZ.1 f;exact H.own x (qS f) b p
def aPy (idx:List Nat)(n:Nat):List Nat:=(List.range n).filter λi=> !idx.contains i
def rest (idx:List Nat)(l:List Th):List Th:=pick (aPy idx l.length) l
theorem aUu (idx:List Nat)(n:Nat):(aPy idx n).Nodup:=List.nodup_range.filter _
theorem mem_restI {idx:List Nat}{n i:Nat}(h:i∈aPy idx n):i∉idx:=by
 unfold aPy at h;rw [List.mem_filter]at h;simpa using h.2
def fzAt (l:List Th)(i:Nat):Bool:=match l[i]? with
 |some (.fz _)=>true
 |_=>false
theorem aWs {l:List Th}{x:Th}(h:fzAt l i=true)(f:l[i]? =some x):x.blocks=[]:=by
 unfold fzAt at h;rw [f]at h;cases x<;>simp_all [Th.blocks]
theorem Hd.rest_apart (H:Hd O w0 w S l){ow fs:List Nat}(B:fs.all (fzAt l)=true){b:Nat}(C:b∈bks (rest ow l)):b∉bks (Go.Lf.pick (ow++fs) l):=by
 intro h;obtain⟨j,D,y,E,p⟩:=aMp C;obtain⟨i,hi,x,A,f⟩:=aMp h;rcases mA.1 hi with hi|hi
 ·exact H.apart A E (λe=>mem_restI D (e▸hi)) b f p
 ·rw [aWs (List.all_eq_true.1 B i hi) A]at f;cases f
theorem Hd.W (H:Hd O w0 w S l) (ow fs:List Nat) (B:(ow++fs).Nodup:=by decide) (C:fs.all (fzAt l)=true:=by exact rfl):
  Hd (O++bks (rest ow l)) w w (bks (Go.Lf.pick (ow++fs) l)) (Go.Lf.pick (ow++fs) l):=by
 refine⟨Only.refl _ w,λx f=>?_,λx f b p=>⟨.inr (dV.2 ⟨x,f,p⟩),?_⟩,H.pick_nd B,λb p=>?_⟩
 ·obtain⟨i,_,f⟩:=mZ.1 f;refine Th.same (H.V f) (λb p _=>⟨⟨λh=>?_,λh=>p.2 (xI h)⟩,rfl⟩) (λ_ _=>rfl);rcases mA.1 h with h|h
  ·exact p.1 h
  ·exact p.2 (xI h)
 ·obtain⟨i,_,f⟩:=mZ.1 f;exact(H.own x (qS f) b p).2
 ·rcases mA.1 p with h|h
  ·have:=H.fo b h;refine⟨Nat.lt_of_lt_of_le this.1 H.only.size,λhm=>?_⟩;obtain⟨x,f,A⟩:=dV.1 (xI hm);exact H.notO f A h
  ·exact⟨H.lt (xI h),H.rest_apart C h⟩
theorem Hd.back {l2:List Th} (H:Hd O w0 w S l) (ow fs:List Nat) (I:fs.all (fzAt l)=true)
  (G:Hd (O++bks (rest ow l)) w w' (bks (Go.Lf.pick (ow++fs) l)) l2):Hd O w0 w' S (rest ow l++l2):=by
 have D: ∀b∈bks (rest ow l),b∉bks l2:=by
  intro b f h;obtain⟨x,A,p⟩:=dV.1 h;rcases(G.own x A b p).1 with h|h
  ·have:=H.lt (xI f);omega
  ·exact H.rest_apart I f h
 have same:Same (frees O l) (frees O (rest ow l++l2)) w w':=by
  intro b f L;refine⟨⟨f.1,λhm=>?_⟩,G.only.block b L (λh=>f.2 (xI h))⟩;rw [qQ,mA]at hm;rcases hm with h|h
  ·exact f.2 (xI h)
  ·obtain⟨x,A,p⟩:=dV.1 h;rcases(G.own x A b p).1 with h|h
   ·omega
   ·exact f.2 (xI h)
 refine⟨⟨G.only.os.trans H.only.os,G.only.tape.trans H.only.tape,G.only.output.trans H.only.output,Nat.le_trans H.only.size G.only.size,λk J C=>?_⟩,λx A=>?_,λx A b f=>?_,?_,H.fo⟩
 ·rw [G.only.block k (Nat.lt_of_lt_of_le J H.only.size) (λh=>?_),H.only.block k J C];obtain⟨x,A,p⟩:=dV.1 (xI h);rcases(H.own x A k p).1 with h|h
  ·omega
  ·exact C h
 ·rcases mA.1 A with h|h
  ·obtain⟨i,hi,B⟩:=mZ.1 h;refine Th.same (H.V B) same (λb f=>G.only.block b (H.own x (qS B) b f).2 (H.rest_apart I (dV.2 ⟨x,h,f⟩)))
  ·refine Th.same (G.holds x h) (λb f _=>⟨⟨λM=>f.1 (List.mem_append_left _ M),λhm=>?_⟩,rfl⟩) (λ_ _=>rfl);rw [qQ,mA]at hm;rcases hm with hm|hm
   ·exact f.1 (List.mem_append_right _ hm)
   ·exact f.2 hm
 ·rcases mA.1 A with h|h
  ·obtain⟨i,hi,B⟩:=mZ.1 h;have:=H.own x (qS B) b f;exact⟨this.1,Nat.lt_of_lt_of_le this.2 G.only.size⟩
  ·have:=G.own x h b f;refine⟨?_,this.2⟩;rcases this.1 with h|h
   ·exact .inl (Nat.le_trans H.only.size h)
   ·obtain⟨y,R,E⟩:=dV.1 (xI h);exact(H.own y R b E).1
 ·rw [qQ,List.nodup_append];exact⟨H.pick_nd (aUu _ _),G.nd,λa X c Y e=>D a X (e▸Y)⟩
theorem aVv: ∀(l pre:List Th),(List.range' pre.length l.length).filterMap (λi=>(pre++l)[i]?)=l
 | [],pre=>by simp
 |x::l,pre=>by
  rw [List.length_cons,List.range'_succ,List.filterMap_cons];have h:(pre++x::l)[pre.length]? =some x:=by simp
  rw [h];have f:=aVv l (pre++[x]);simp only [List.length_append,List.length_cons,List.length_nil,Nat.zero_add,List.append_assoc,List.singleton_append]at f;simp only [f]
theorem rest_nil (l:List Th):rest [] l=l:=by
 have h:aPy [] l.length=List.range' 0 l.length:=by unfold aPy;rw [List.range_eq_range',List.filter_eq_self];simp
 unfold rest Go.Lf.pick;rw [h];exact aVv l []
theorem Hd.back1 {l2:List Th}(H:Hd O w0 w S l)(fs:List Nat)(f:fs.all (fzAt l)=true)
    (G:Hd (O++bks (rest [] l)) w w' (bks (Go.Lf.pick ([]++fs) l)) l2):Hd O w0 w' S (l++l2):=by
 have:=H.back [] fs f G;rwa [rest_nil]at this
end sep

section
variable {P:Program}{ρ:Env}{w w0 w1:World}{d:Option Tmp}{x y z:Operand}{t u ty e:TypeId}{pos:String}{af:Array Edge}{g:Option (Nat×Bool)}
variable {v:Value}{b o i n c s:Nat}{k k':IntKind}{cs xs vs:List Value}{T:TypeId}{O S:List Nat}{l:List Th}{α:Type}{r:Rp α}{xl yl zl:List α}{a:α}{j:Int}{F:Nat->Prop}

theorem yV (h:SlF r F w v xl)(p:at' xl j=some a): ∃b o f cs,v= .slice (some ⟨b,o,none⟩) xl.length f/\r.rd F w cs a/\F b/\b<w.heap.size/\Cells w ⟨b,o+j.toNat*r.sz,none⟩ cs:=by
 obtain⟨_,_,p⟩:=zV p;obtain⟨xs,C,D,E⟩:=h;have A:0<xl.length:=by omega
 obtain⟨b,o,f,rfl,-,-,G⟩:=D.some A;have B:=E A b rfl;exact⟨b,o,f,_,rfl,aLc C p,B.1,B.2,G.drop _ _⟩
theorem own_at0 (h: ∃xs,rows r F w xs xl/\w.ownsRow 0 e r.sz v xl.length xs)(A:at' xl j=some a): ∃b f cs,v= .slice (some ⟨b,0,none⟩) xl.length f/\r.rd F w cs a/\Cells w ⟨b,j.toNat*r.sz,none⟩ cs:=by
 obtain⟨_,_,A⟩:=zV A;obtain⟨xs,B,D⟩:=h;obtain⟨b,f,_,rfl,G,-,-⟩:=owns_some D (by omega);refine⟨b,f,_,rfl,aLc B A,λi v p=>?_⟩;have C:=nC B;rw [Addr.add_none];refine G.cell ?_;have hi:(xs.drop (j.toNat*r.sz))[i]? =some v:=by
  rw [List.getElem?_take]at p;split at p
  ·exact p
  ·cases p
 rw [List.getElem?_drop]at hi;rw [List.getElem?_append_left (gS.1 hi).1];exact hi
theorem dE (h: ∃xs,rows r F w xs xl/\w.ownsRow 0 e r.sz v xl.length xs)(p:at' xl j=some a): ∃b f cs,v= .slice (some ⟨b,0,none⟩) xl.length f/\r.rd F w cs a/\Cells w ⟨b,0+j.toNat*r.sz,none⟩ cs:=by
 obtain⟨b,f,cs,A,B,C⟩:=own_at0 h p;exact⟨b,f,cs,A,B,by rw [Nat.zero_add];exact C⟩
def Sr (r:Rp α)(F:Nat->Prop)(w:World)(v:Value)(l:List α):Prop:= ∃xs,rows r F w xs l/\SlR w v r.sz l.length xs
theorem Sr.of_rd (h:SlF r F w v xl):Sr r F w v xl:=⟨_,h.choose_spec.1,h.choose_spec.2.1⟩
theorem Sr.xJ (h: ∃xs,rows r F w xs xl/\w.ownsRow 0 e r.sz v xl.length xs):Sr r F w v xl:=⟨_,h.choose_spec.1,aLl h.choose_spec.2⟩
theorem Sr.len (h:Sr r F w v xl): ∃a c,v= .slice a xl.length c:=h.choose_spec.2.shape
theorem aRu {fs:Array Field}{f:Field}{m:Nat}(h:P.underlying t=some (.struct fs))(p:fs[i]? =some f)(A:Sz P f.type n)(B:n≠0)(C:ev ρ x= .pointer (some ⟨b,o,none⟩))(hm:o+f.offset=m):
    Do P ⟨d,.fieldAddr t x i,ty,pos,af,g⟩ ρ w (.pointer (some ⟨b,m,none⟩)) w:=by
 subst hm;unfold Do;simp [execOp,Instr.fieldAt,Instr.sureAddr,fieldPlace,C,p,run_underlying h,jB A,B,Addr.add_none]
theorem bH {bytes:Nat}{zs:List Value}{p:Value}(H:Hd O w0 w S l)(hi:l[i]? =some (.own r v e xl))(B:P.underlying t=some (.slice e))(C:El P e r.sz bytes zs)(D:ev ρ x=v)(E:ev ρ y=p)
    (G:Sr r (frees O l) w p yl)(I:app' bytes xl yl=some zl):
    ∃f w',Do P ⟨d,.call {callee:= .builtin .append,args:= #[x,y],argTypes:= #[t,t]},ty,pos,af,g⟩ ρ w f w'/\Hd O w0 w' S (l.set i (.own r f e zl)):=by
 obtain⟨J,L,rfl⟩:=aMd I;obtain⟨xs,M,R⟩:=H.V hi;obtain⟨X,s1,s2⟩:=G;obtain⟨f,w',hd,h⟩:=aQq (P:=P) (ρ:=ρ) (w:=w) (d:=d) (ty:=ty) (pos:=pos) (af:=af) (g:=g) B C D E R s2 (aLu s1) J L;refine⟨f,w',hd,H.turn hi h.only (λY=>?_) (λb A=>⟨(h.blk b (wR.1 A)).imp wR.2 id,(aFx h.own b A).2⟩) (xY f)⟩;exact⟨xs++X,aU Y (vI M s1),by simpa using h.own⟩
theorem yI (f:Zero P t cs)(H:Hd O w0 w S l): ∃v w',Do P ⟨d,.alloc t,ty,pos,af,g⟩ ρ w v w'/\ ∃b,v= .pointer (some ⟨b,0,none⟩)/\Hd O w0 w' S (l++[.blk b cs t]):=by
 obtain⟨v,w',h,b,p,A⟩:=aVu (P:=P) (ρ:=ρ) (w:=w) (d:=d) (ty:=ty) (pos:=pos) (af:=af) (g:=g) f;exact⟨v,w',h,b,p,H.alloc A⟩
theorem yL (f:ev ρ x= .agg cs.toArray)(H:Hd O w0 w S l): ∃v w',Do P ⟨d,.box t x,ty,pos,af,g⟩ ρ w v w'/\ ∃b,v= .pointer (some ⟨b,0,none⟩)/\Hd O w0 w' S (l++[.blk b cs t]):=by
 obtain⟨v,w',h,b,p,A⟩:=Ex_box (P:=P) (ρ:=ρ) (w:=w) (d:=d) (ty:=ty) (pos:=pos) (af:=af) (g:=g) f;exact⟨v,w',h,b,p,H.alloc A⟩
theorem aRk (f:ev ρ x=v)(h:v.cells= #[v])(H:Hd O w0 w S l): ∃u w',Do P ⟨d,.box t x,ty,pos,af,g⟩ ρ w u w'/\ ∃b,u= .pointer (some ⟨b,0,none⟩)/\Hd O w0 w' S (l++[.blk b [v] t]):=by
 obtain⟨v,w',p,b,A,B⟩:=Ex_box1 (P:=P) (ρ:=ρ) (w:=w) (d:=d) (ty:=ty) (pos:=pos) (af:=af) (g:=g) f h;exact⟨v,w',p,b,A,H.alloc B⟩
theorem yU (H:Hd O w0 w S l)(n:Nat)(hi:l[n]? =some (.blk b cs T))(h:Sz P t 1)(p:ev ρ x= .pointer (some ⟨b,i,none⟩))(A:ev ρ y=v)(B:v.oneCell'=true)(f:Nat.blt i cs.length=true):
    ∃w',DoU P ⟨none,.store t x y,ty,pos,af,g⟩ ρ w w'/\Hd O w0 w' S (l.set n (.blk b (cs.set i v) T)):=by
 have f:i<cs.length:=by rw [Nat.blt]at f;exact Nat.lt_of_succ_le (Nat.le_of_ble_eq_true f)
 obtain⟨w',C,D⟩:=Ex_store1 (P:=P) (ρ:=ρ) (ty:=ty) (pos:=pos) (af:=af) (g:=g) h p A B (H.V hi) f;exact⟨w',C,H.wr hi D⟩
def aNj:List Value->Prop
 | []=>True
 |v::l=>v.oneCell'=true/\aNj l
theorem yM: ∀{l:List Value},aNj l-> ∀v∈l,v.oneCell'=true
 | [],_,v,h=>by cases h
 |x::l,h,v,f=>by
  rcases List.mem_cons.1 f with e|e
  ·rw [e];exact h.1
  ·exact yM h.2 v e
theorem xU (h:SlF r F w v xl):v.oneCell'=true:=SlR.one h.choose_spec.2.1
theorem bW (h: ∃xs,rows r F w xs xl/\w.ownsRow 0 e r.sz v xl.length xs):v.oneCell'=true:=SlR.one (aLl h.choose_spec.2)
def aXb (s:Nat):List Value->Prop
 | []=>True
 |v::l=>v.cells.size=s/\aXb s l
theorem aPa {s:Nat}: ∀{l:List Value},aXb s l-> ∀v∈l,v.cells.size=s
 | [],_,v,h=>by cases h
 |x::l,h,v,f=>by
  rcases List.mem_cons.1 f with e|e
  ·rw [e];exact h.1
  ·exact aPa h.2 v e
theorem zX (H:Hd O w0 w S l)(n:Nat)(hi:l[n]? =some (.blk b cs T)){m:Nat}(f:Sz P t m)(hm:vs.length=m)(h:ev ρ x= .pointer (some ⟨b,i,none⟩))(p:ev ρ y= .agg vs.toArray)(A:aNj vs)(B:Nat.ble (i+vs.length) cs.length=true):
    ∃w',DoU P ⟨none,.store t x y,ty,pos,af,g⟩ ρ w w'/\Hd O w0 w' S (l.set n (.blk b (splice cs i vs) T)):=by
 obtain⟨w',C,D⟩:=aVp (P:=P) (ρ:=ρ) (ty:=ty) (pos:=pos) (af:=af) (g:=g) f hm h p (yM A) (H.V hi) (Nat.le_of_ble_eq_true B);exact⟨w',C,H.wr hi D⟩
theorem Lx_bs {len bytes:Nat}{zs:List Value}{parts:Array (Nat×Operand)} (I:P.underlying t=some (.slice e)) (J:El P e r.sz bytes zs) (B:len*r.sz<=16777216) (f:0<len*r.sz) (D:xl.length=len)
    (L:uA r.sz len zs (parts.toList.map λp=>(p.1,ev ρ p.2))=some cs) (H:Hd O w0 w S l) (G:rows r (frees O l) w cs xl):
    ∃v w',Do P ⟨d,.buildSlice t len parts,ty,pos,af,g⟩ ρ w v w'/\Hd O w0 w' S (l++[.own r v e xl]):=by
 obtain⟨v,w',M,b,rfl,C⟩:=Ex_bs (P:=P) (ρ:=ρ) (w:=w) (d:=d) (ty:=ty) (pos:=pos) (af:=af) (g:=g) I J B f L;refine⟨_,w',M,H.add C.only (λR=>⟨cs,aU R G,?_⟩) (λX E=>?_) (xY _)⟩;have A:=nC G;subst D;exact⟨A,.inr ⟨b,xl.length,cs.toArray,rfl,Nat.zero_le _,C.blk,Nat.le_refl _,(by rw [maxLen_eq];have Y:r.sz≠0:=(by intro h;rw [h]at f;simp at f);have:xl.length<=xl.length*r.sz:=Nat.le_mul_of_pos_right _ (by omega);omega),(by simpa using A),(by rw [List.take_of_length_le];simp [A])⟩⟩;have:X=b:=by simpa [Th.blocks,ob,kT]using E
 subst this;exact⟨Nat.le_of_eq C.at_.symm,by rw [C.size,C.at_];omega⟩
theorem dU (H:Hd O w0 w S l)(r:Rp α)(e:TypeId):Hd O w0 w S (l++[.own r (.slice none 0 0) e []]):=
 H.add (Only.refl [] w) (λ_=>⟨[],rfl,w.ownsRow_nil 0 e r.sz⟩) (by simp [Th.blocks,ob,kT]) (by simp [Th.blocks,ob,kT])
end

section
variable {P:Program}{N:Nat}{ops:Array Oper}{κ:List Kd}{K:Env->World->Prop}{Q:Exit->Env->World->Prop}{k:Nat}{rest:List Oper}{ρ:Env}{w:World}{v:Value}{d:Nat}{op:Op}{ty:TypeId}{pos:String}{af:Array Edge}{g:Option (Nat×Bool)}
theorem wK {R:Value->Prop}(f:fV N ops ρ ⟨some d,op,ty,pos,af,g⟩=true)(hd:Nat.blt d N=true)(h: ∃v,(∀w',Do P ⟨some d,op,ty,pos,af,g⟩ ρ w' v w')/\R v)(n: ∀v,R v->RL P N ops Q rest (upd ρ d v) w):
    RL P N ops Q (⟨some d,op,ty,pos,af,g⟩::rest) ρ w:=by
 obtain⟨v,p,A⟩:=h;exact tJ f hd (p w) (n v A)
end

section
variable {P:Program}{ρ:Env}{w w0 w1:World}{d:Option Tmp}{x y z:Operand}{t u ty e:TypeId}{pos:String}{af:Array Edge}{g:Option (Nat×Bool)}
variable {v:Value}{b o i n c s:Nat}{k k':IntKind}{cs xs vs:List Value}{T:TypeId}{O S:List Nat}{l:List Th}{α:Type}{r:Rp α}{xl yl zl:List α}{a:α}{j q:Int}{F:Nat->Prop}

theorem kG {f:FuncId}{args:Array Operand}{at_:Array TypeId}{p h:List Value}(D:Enters P f)(E:ev ρ x= .func (.func f) #[] h.toArray)(G:args.toList.map (ev ρ)=p):
  DoC P ⟨d,.call {callee:= .value x,args:=args,argTypes:=at_},ty,pos,af,g⟩ ρ w f (p++h).toArray:=by
 obtain⟨A,H,_,I⟩:=D;have B: ¬A.body=none:=by cases hb:A.body<;>simp_all
 have C: ¬A.name= "runtime.NumGoroutine" :=by simpa using I
 have J: ∀as,(callFunc f as).run P w= .ok (.enter f as) w:=by
  intro as;simp [callFunc,Sem.run,H,B,C,program]
 unfold DoC;have e:args.map (ev ρ)=p.toArray:=by rw [<-G];apply Array.ext';simp
 simp only [execOp,resolve,E,Deferred.ofValue];rw [e];simp [invoke,J]
theorem kL {f:FuncId}{h:Array Operand}{p:List Value}(A:h.toList.map (ev ρ)=p):Do P ⟨d,.makeFunc (.func f) #[] h,ty,pos,af,g⟩ ρ w (.func (.func f) #[] p.toArray) w:=by
 have e:h.map (ev ρ)=p.toArray:=by rw [<-A];apply Array.ext';simp
 unfold Do;simp [execOp,Instr.makeFunc,e]
theorem xR {s1 s2:Str}(f:ev ρ x= .string (bs s1))(h:ev ρ y= .string (bs s2)):Do P ⟨d,.binOp .eql t x y u,ty,pos,af,g⟩ ρ w (.bool (decide (s1=s2))) w:=
 OB.yQ (Do_eqlstr f h) (congrArg Value.bool (decide_eq_decide.2 bs_inj))
theorem sS {s1 s2:Str}(f:ev ρ x= .string (bs s1))(h:ev ρ y= .string (bs s2)):Do P ⟨d,.binOp .neq t x y u,ty,pos,af,g⟩ ρ w (.bool (decide (s1≠s2))) w:=
 OB.yQ (Do_neqstr f h) (congrArg Value.bool (decide_eq_decide.2 (not_congr bs_inj)))
theorem aJz {s1:Str}(f:P.underlying t=some .string)(h:ev ρ x= .string (bs s1)):
  Do P ⟨d,.call {callee:= .builtin .len,args:= #[x],argTypes:= #[t]},ty,pos,af,g⟩ ρ w (.int .i64 (s1.length:Nat)) w:=
 OB.yQ (Do_lens f h) (by rw [bCp])
def byte' (s:Str)(i:Int):Option Int:=(at' s i).map λc=>(c.toNat:Int)
theorem aIz {s1:Str}{c:Int}(f:P.underlying t=some .string)(p:ev ρ x= .string (bs s1))(A:ev ρ y= .int k q)(h:byte' s1 q=some c):Do P ⟨d,.index t x y,ty,pos,af,g⟩ ρ w (.int .u8 c) w:=by
 unfold byte' at h
 cases ha:at' s1 q with
 |none=>rw [ha]at h;cases h
 |some c'=>
  rw [ha]at h;obtain rfl:(c'.toNat:Int)=c:=by simpa using h
  obtain⟨B,_,C⟩:=zV ha;have e:(bs s1)[q.toNat]? =some c':=by
   obtain⟨D,E⟩:=gS.1 C;have G:q.toNat<(bs s1).size:=by rw [bCp];exact D
   rw [getElem?_pos (bs s1) q.toNat G];simp [bs,ByteArray.getElem_eq_getElem_data,E]
  unfold Do;simp [execOp,Instr.index,p,A,asIntOf,run_underlying f,B,e]
theorem aYl {pv:Option Addr}(f:P.underlying t=some (.pointer e))(h:ev ρ x= .pointer pv)(p:ev ρ y= .pointer none):Do P ⟨d,.binOp .neq t x y u,ty,pos,af,g⟩ ρ w (.bool (!pv.isNone)) w:=by
 have A:P.underlying t=some (.pointer (P.pointee t)):=by rw [f];simp [Program.pointee,f]
 unfold Do;simp only [execOp,h,p,eqGuard];have:=run_neq_pointer_nil w t pv A;simp [this]
def PtF (r:Rp α)(F:Nat->Prop)(w:World)(pv:Option Addr):Option α->Prop
 |none=>pv=none
 |some x=> ∃b o cs,pv=some ⟨b,o,none⟩/\F b/\b<w.heap.size/\r.rd F w cs x/\Cells w ⟨b,o,none⟩ cs
theorem PtF.mono {F F':Nat->Prop}{w w':World}{pv:Option Addr}{o:Option α}(f:Same F F' w w')(h:PtF r F w pv o):PtF r F' w' pv o:=by
 cases o with
 |none=>exact h
 |some x=>
  obtain⟨b,o,cs,p,A,B,C,D⟩:=h;obtain⟨E,G,H⟩:=Cells.same f A B D;exact⟨b,o,cs,p,E,G,r.mono f C,H⟩
def Fz.pt (r:Rp α)(pv:Option Addr)(o:Option α):Fz:=⟨λF w=>PtF r F w pv o,PtF.mono⟩
theorem PtF.isNone {pv:Option Addr}{o:Option α}(h:PtF r F w pv o):pv.isNone=o.isNone:=by
 cases o with
 |none=>obtain rfl:pv=none:=h;rfl
 |some x=>obtain⟨b,o,cs,rfl,_⟩:=h;rfl
theorem aXu (h:SlF r F w v xl) {lo hi:Int} (R:sub' xl lo hi=some yl): ∃a c,v= .slice a xl.length c/\0<=lo/\lo<=hi/\hi<=xl.length/\xl.length<=c/\SlF r F w (sliced a lo.toNat hi.toNat c r.sz) yl:=by
 obtain⟨X,Y,I,rfl⟩:=aUj R;obtain⟨xs,J,D,r3⟩:=h;obtain⟨_,D⟩:=D;rcases D with ⟨rfl,E⟩|⟨a,f,rfl,h3,_,h5,hc⟩
 ·have:xl=[]:=List.eq_nil_of_length_eq_zero E;subst this;simp at I;obtain rfl:hi=0:=by omega
  obtain rfl:lo=0:=by omega
  exact⟨none,0,rfl,by omega,by omega,by simp,by simp,SlF.nil⟩
 ·refine⟨some a,f,rfl,X,Y,I,h3,(xs.drop (lo.toNat*r.sz)).take ((hi-lo).toNat*r.sz),xZ _ (uQ _ J),⟨?_,?_⟩,?_⟩
  ·exact nC (xZ _ (uQ _ J))
  ·unfold sliced;have C:((xl.drop lo.toNat).take (hi-lo).toNat).length=hi.toNat-lo.toNat:=by simp;omega
   rw [C];refine .inr ?_
   by_cases L:f=lo.toNat
   ·rw [if_pos L];refine⟨a,f-lo.toNat,rfl,by omega,by omega,λh=>by omega,?_⟩;have:(hi-lo).toNat=0:=by omega
    rw [this];intro i v p;simp at p
   ·rw [if_neg L];refine⟨a.add (lo.toNat*r.sz),f-lo.toNat,rfl,by omega,by omega,λh=>?_,?_⟩
    ·have:=h5 (by omega);unfold Addr.add;split
     ·exact this
     ·rfl
    ·intro i v p;have e:(a.add (lo.toNat*r.sz)).add i=a.add (lo.toNat*r.sz+i):=by
      unfold Addr.add
      by_cases G:lo.toNat*r.sz=0
      ·rw [if_pos G,G,Nat.zero_add]
      ·rw [if_neg G]
       by_cases M:i=0
       ·subst M;rw [if_pos rfl,if_neg (by omega)];rfl
       ·rw [if_neg M,if_neg (by omega)];simp [Nat.add_assoc]
     rw [e];refine hc _ _ ?_;rw [List.getElem?_take]at p;split at p
     ·rwa [List.getElem?_drop]at p
     ·cases p
  ·intro E b A;have H:0<xl.length:=by simp at E;omega
   have:b=a.block:=by
    unfold sliced at A;simp only [kT]at A;split at A
    ·rename_i a2 _ c2 B;simp at B;obtain⟨B,_⟩:=B;split at B
     ·cases B;simpa using A.symm
     ·cases B;simpa [Addr.add_block]using A.symm
    ·cases A
   exact r3 H b (by rw [this];rfl)
theorem mJ {A:IntKind}{hi:Int}{f:Operand}(B:P.underlying t=some (.slice e))(C:Sz P e r.sz)(h:SlF r F w v xl)(D:ev ρ x=v)(hh:ev ρ f= .int A hi)(E:sub' xl 0 hi=some yl):
    ∃p,(∀w',Do P ⟨d,.slice t x none (some f) none,ty,pos,af,g⟩ ρ w' p w')/\SlF r F w p yl:=by
 obtain⟨a,c,e,_,G,_,_,H⟩:=aXu h E;exact⟨_,λw'=>aKp B C (D.trans e) hh G (by omega),H⟩
theorem bAt {kl:IntKind}{lo:Int}{f:Operand}(A:P.underlying t=some (.slice e))(B:Sz P e r.sz)(h:SlF r F w v xl)(C:ev ρ x=v)(D:ev ρ f= .int kl lo)(E:sub' xl lo (xl.length:Int)=some yl):
    ∃p,(∀w',Do P ⟨d,.slice t x (some f) none none,ty,pos,af,g⟩ ρ w' p w')/\SlF r F w p yl:=by
 obtain⟨a,c,e,G,_,_,_,H⟩:=aXu h E;refine⟨_,λw'=>aNb A B (C.trans e) D G (by omega),?_⟩;simpa using H
theorem wL {c:Int}(f:ev ρ x= .int k j)(p:ev ρ y= .int k q)(h:max j q=c):Do P ⟨d,.call {callee:= .builtin .max,args:= #[x,y],argTypes:= #[t,u]},ty,pos,af,g⟩ ρ w (.int k c) w:=by
 subst h;have e:max j q=if j<q then q else j:=by split<;>omega
 unfold Do;simp [execOp,resolve,invoke,builtin,Builtin.max_,Builtin.max2,f,p,e]
theorem Do_min {c:Int}(f:ev ρ x= .int k j)(p:ev ρ y= .int k q)(h:min j q=c):Do P ⟨d,.call {callee:= .builtin .min,args:= #[x,y],argTypes:= #[t,u]},ty,pos,af,g⟩ ρ w (.int k c) w:=by
 subst h;have e:min j q=if q<j then q else j:=by split<;>omega
 unfold Do;simp [execOp,resolve,invoke,builtin,Builtin.min_,Builtin.min2,f,p,e]
theorem wC {c:Int}(f:ev ρ x= .int k j)(p:ev ρ y= .int k q)(h:tY k j q=some c):Do P ⟨d,.binOp .quo t x y u,ty,pos,af,g⟩ ρ w (.int k c) w:=by
 obtain⟨A,B⟩:=quo_some h;exact Do_tquo f p A B
theorem sV {c:Int}(f:ev ρ x= .int k j)(p:ev ρ y= .int k q)(h:qN j q=some c):Do P ⟨d,.binOp .rem t x y u,ty,pos,af,g⟩ ρ w (.int k c) w:=by
 obtain⟨A,B⟩:=rem_some h;exact OB.yQ (Do_trem f p A) (by rw [B])
theorem aDn {c:Int}(f:ev ρ x= .int k j)(p:ev ρ y= .int k' q)(h:aDs k j q=some c):Do P ⟨d,.binOp .shr t x y u,ty,pos,af,g⟩ ρ w (.int k c) w:=by
 obtain⟨A,B,C⟩:=shr_some h;exact OB.yQ (Do_shr f p A B rfl) (by rw [C])
theorem aDd {z:Value}{n:Nat}:madeCells #[z] (n*1)=(List.replicate n z).toArray:=by
 unfold madeCells;apply Array.ext';apply List.ext_getElem;simp;intro i _ _;simp [Nat.mod_one]
theorem aHs {z:Value}{x:α}(h: ∀F w,r.rd F w [z] x)(F:Nat->Prop)(w:World): ∀n,rows r F w (List.replicate n z) (List.replicate n x)
 |0=>rfl
 |n+1=>⟨[z],List.replicate n z,rfl,h F w,aHs h F w n⟩
theorem uD {bytes:Nat}{zv:Value} (B:P.underlying t=some (.slice e)) (C:El P e r.sz bytes [zv]) (f:r.sz=1) (D: ∀F w,r.rd F w [zv] a) (E:ev ρ x= .int .i64 j) (G:ev ρ y= .int .i64 j) (hm:make' bytes j a=some xl) (H:Hd O w0 w S l):
    ∃v w',Do P ⟨d,.makeSlice t x y,ty,pos,af,g⟩ ρ w v w'/\Hd O w0 w' S (l++[.own r v e xl]):=by
 obtain⟨I,_,_,rfl⟩:=aDh hm;have A:(j.toNat:Int)=j:=Int.toNat_of_nonneg I;obtain⟨v,w',J,b,rfl,h⟩:=bCz (P:=P) (ρ:=ρ) (w:=w) (d:=d) (ty:=ty) (pos:=pos) (af:=af) (g:=g) (n:=j.toNat) (cs:=List.replicate j.toNat zv) B C (by rw [A];exact E) (by rw [A];exact G) (by omega) (by omega) (by rw [f];exact aDd);refine⟨_,w',J,H.add h.only (λ_=>⟨List.replicate j.toNat zv,aHs D _ _ _,?_⟩) (λL p=>?_) (xY _)⟩;refine⟨by simp [f],.inr ⟨b,j.toNat,(List.replicate j.toNat zv).toArray,by simp,Nat.zero_le _,h.blk,by simp,(by rw [maxLen_eq];omega),by simp [f],?_⟩⟩;rw [List.take_of_length_le];simp [f];have:L=b:=by simpa [Th.blocks,ob,kT]using p
 subst this;exact⟨Nat.le_of_eq h.at_.symm,by rw [h.size,h.at_];omega⟩
theorem xC {f:FuncId}{p:Array Value}{w:World}{O:List Nat}{A:List Th}(h:Calls P f p w λe w'=>e= .returned v/\Hd O w w' [] A):Calls P f p w λe w'=>e= .returned v/\Below w.heap.size w w':=
 h.mono λ_ _ ⟨B,C⟩=>⟨B,C.only.below⟩
end

section
variable {P:Program}{ρ:Env}{w w0 w1:World}{d:Option Tmp}{x y z:Operand}{t u ty e:TypeId}{pos:String}{af:Array Edge}{g:Option (Nat×Bool)}
variable {v:Value}{b o i n c s m:Nat}{k k':IntKind}{cs xs vs:List Value}{T:TypeId}{O S:List Nat}{l:List Th}{α β:Type}{r:Rp α}{xl yl zl:List α}{a:α}{j q:Int}{F:Nat->Prop}

def aKf (P:Program)(t:TypeId)(i:Nat):Option (Nat×Option Nat):=
 match P.underlying t with
 |some (.struct fs)=>(fs[i]?).map λf=>(f.offset,(P.info? f.type).map (·.size))
 |_=>none
theorem aOe (h:aKf P t i=some (m,some n)) (A:n≠0) (B:ev ρ x= .pointer (some ⟨b,o,none⟩)):Do P ⟨d,.fieldAddr t x i,ty,pos,af,g⟩ ρ w (.pointer (some ⟨b,o+m,none⟩)) w:=by
 unfold aKf at h;split at h;rename_i _ C;rw [Option.map_eq_some_iff]at h;obtain⟨f,D,p⟩:=h;have E:f.offset=m:=congrArg Prod.fst p;have G:(P.info? f.type).map (·.size)=some n:=congrArg Prod.snd p;exact aRu C D G A B (by rw [E]);cases h
def allp (F:Nat->Prop)(w:World):List Fz->Prop
 | []=>True
 |p::l=>p.p F w/\allp F w l
theorem aVh (O:List Nat)(l:List Th)(p:Fz):frees O (l++[.fz p])=frees O l:=by
 funext b;unfold frees;rw [qQ];simp [bks,Th.blocks]
theorem Hd.fzs: ∀{l:List Th} (ps:List Fz),Hd O w0 w S l->allp (frees O l) w ps->Hd O w0 w S (l++ps.map Th.fz)
 |l,[],H,_=>by simpa using H
 |l,p::ps,H,h=>by
  have f:=H.fz p h.1;have A:=Hd.fzs (l:=l++[.fz p]) ps f (by rw [aVh];exact h.2);simpa using A
theorem ptf_some {pv:Option Addr}{op:Option α}(h:PtF r F w pv op)(e:op=some a): ∃b o cs,pv=some ⟨b,o,none⟩/\F b/\b<w.heap.size/\r.rd F w cs a/\Cells w ⟨b,o,none⟩ cs:=by subst e;exact h
def nilO [DecidableEq β] (l:List α)(k:Bool->Option β):Option β:=
 match l with
 | []=>if k true=k false then k false else none
 |_::_=>k false
theorem aOq [DecidableEq β] {l:List α}{k:Bool->Option β}{r:β} (h:nilO l k=some r) {a:Option Addr} (q:a.isNone=true->l=[]): ∃b,a.isNone=b/\k b=some r:=by
 refine⟨_,rfl,?_⟩;unfold nilO at h
 cases l with
 |nil=>
  simp only at h;split at h
  ·rename_i e
   cases a.isNone
   ·exact h
   ·rw [e];exact h
  ·cases h
 |cons x l=>
  cases ha:a.isNone with
  |false=>exact h
  |true=>cases q ha
theorem aWa (h:SlF r F w v xl): ∃a c,v= .slice a xl.length c/\(a.isNone=true->xl=[]):=by
 obtain⟨xs,_,A,_⟩:=h;rcases A.2 with ⟨rfl,p⟩|⟨a,f,rfl,_⟩
 ·exact⟨none,0,by rw [p],λ_=>List.eq_nil_of_length_eq_zero p⟩
 ·exact⟨some a,f,rfl,λh=>by cases h⟩
theorem aEt {a:Option Addr}(f:P.underlying t=some (.slice e))(h:ev ρ x= .slice a n c)(p:ev ρ y= .slice none 0 0):Do P ⟨d,.binOp .eql t x y u,ty,pos,af,g⟩ ρ w (.bool a.isNone) w:=by
 unfold Do;simp only [execOp,h,p,eqGuard];have:=Lib.run_eql_slice_nil (P:=P) w t e a n c 0 0 f;simp [this]
theorem Lx_bs0 {bytes:Nat}{zs:List Value} (p:P.underlying t=some (.slice e)) (A:El P e r.sz bytes zs) (H:Hd O w0 w S l):
    ∃v w',Do P ⟨d,.buildSlice t 0 #[],ty,pos,af,g⟩ ρ w v w'/\Hd O w0 w' S (l++[.own r v e []]):=by
 obtain⟨v,w',B,b,rfl,f⟩:=Ex_bs0 (P:=P) (ρ:=ρ) (w:=w) (d:=d) (ty:=ty) (pos:=pos) (af:=af) (g:=g) p A;refine⟨_,w',B,H.add f.only (λ_=>⟨[],rfl,?_⟩) (λC h=>?_) (xY _)⟩;exact⟨by simp,.inr ⟨b,0, #[],rfl,Nat.zero_le _,f.blk,Nat.le_refl _,(by rw [maxLen_eq];omega),by simp,by simp⟩⟩;have:C=b:=by simpa [Th.blocks,ob,kT]using h
 subst this;exact⟨Nat.le_of_eq f.at_.symm,by rw [f.size,f.at_];omega⟩
theorem qC {cs vs:List Value}{i k:Nat} (h:i+vs.length<=cs.length):(splice cs i vs)[k]? =if k<i then cs[k]? else if k<i+vs.length then vs[k-i]? else cs[k]? :=by
 unfold splice;have f:(cs.take i).length=i:=by simp;omega
 by_cases p:k<i;rw [if_pos p,List.append_assoc,List.getElem?_append_left (by rw [f];exact p),List.getElem?_take,if_pos p];rw [if_neg p];by_cases c2:k<i+vs.length;rw [if_pos c2,List.append_assoc,List.getElem?_append_right (by rw [f];omega),f,List.getElem?_append_left (by omega)];rw [if_neg c2,List.getElem?_append_right (by simp [f];omega),List.getElem?_drop];congr 1;simp [f];omega
theorem fun_only {α:Type}{r:Rp α}{w w':World}{v:Value}{b n c:Nat}{e:TypeId}{xl:List α}{cs:List Value}{T:TypeId}(f:v= .slice (some ⟨b,0,none⟩) n c)(h:Wr w w' b cs T):Only (Th.own r v e xl).blocks w w':=by
 subst f;simpa [Th.blocks,ob,kT]using h.only
theorem xP {off E:Nat}{a':α}{Y:Nat}{u':Value} (H:Hd O w0 w S l) (n:Nat) (hi:l[n]? =some (.own r v e xl)) (G:v= .slice (some ⟨b,0,none⟩) xl.length E) (hc:Cells w ⟨b,0+j.toNat*r.sz,none⟩ cs) (hx:ev ρ x= .pointer (some ⟨b,0+j.toNat*r.sz+off,none⟩))
  (hs:Sz P t Y) (hm:vs.length=Y) (hy:ev ρ y=u') (ab:u'.cells=vs.toArray) (h1: ∀v∈vs,v.oneCell'=true) (I:set' xl j a'=some yl) (ak:off+Y<=r.sz) (aw:cs.length=r.sz) (ac:r.rd (frees O l) w (splice cs off vs) a'):
  ∃w',DoU P ⟨none,.store t x y,ty,pos,af,g⟩ ρ w w'/\Hd O w0 w' S (l.set n (.own r v e yl)):=by
 obtain⟨_,_,rfl⟩:=aUa I;rw [Nat.zero_add]at hc;obtain⟨xs,r1,r2⟩:=H.V hi;have J:=nC r1;have ay:j.toNat*r.sz+r.sz<=xs.length:=by
  rw [J,<-Nat.succ_mul];exact Nat.mul_le_mul_right _ (by omega)
 rcases r2.2 with ⟨L,_⟩|⟨g,_,f,M,_,hg,ad,ae,ag,h⟩
 ·rw [G]at L;cases L
 ·rw [G]at M
  cases M
  have hb:Blk w b f.toList e:=by unfold Blk;simpa using hg
  have ao:xs.length<=f.toList.length:=by rw [<-h];simp;omega
  obtain⟨w',hd,hW⟩:=rP (P:=P) (ρ:=ρ) (w:=w) (ty:=ty) (pos:=pos) (af:=af) (g:=_) hs hm hx (by rw [hy,ab]) h1 hb (by omega);have C: ∀k,k<r.sz->cs[k]? =xs[j.toNat*r.sz+k]? :=by
   intro k _;have R:k<cs.length:=by omega
   have h2:=hc k cs[k] (gE R);rw [Addr.add_none,cell_of_row w b _ f e (0,0) hg]at h2;rw [gE R,<-h,List.getElem?_take,if_pos (by omega)];simpa using h2.symm
  refine⟨w',hd,H.turn hi (fun_only G hW) (λhs=>⟨splice xs (j.toNat*r.sz) (splice cs off vs),aU hs (aVx r1 (by omega) ac),?_⟩) (λc D=>?_) (xY v)⟩
  ·have X:(splice xs (j.toNat*r.sz) (splice cs off vs)).length=xs.length:=bY (by rw [bY (by omega)];omega);refine⟨by rw [X,J];simp,.inr ⟨b,E,(splice f.toList (0+j.toNat*r.sz+off) vs).toArray,by rw [G];simp,Nat.zero_le _,hW.blk,by simpa using ad,ae,?_,?_⟩⟩
   ·have:=bY (cs:=f.toList) (vs:=vs) (i:=0+j.toNat*r.sz+off) (by omega);simp only [List.size_toArray];rw [this];simpa using ag
   ·apply List.ext_getElem?;intro k;rw [List.getElem?_take];simp only [List.length_set];have A:=qC (cs:=xs) (vs:=splice cs off vs) (i:=j.toNat*r.sz) (k:=k) (by rw [bY (by omega)];omega);have B:=qC (cs:=f.toList) (vs:=vs) (i:=0+j.toNat*r.sz+off) (k:=k) (by omega);rw [bY (by omega)]at A;rw [A,B];have p: ∀k,xs[k]? =if k<xl.length*r.sz then f.toList[k]? else none:=by
     intro k;rw [<-h,List.getElem?_take]
    by_cases c0:k<xl.length*r.sz
    ·rw [if_pos c0]
     by_cases c1:k<j.toNat*r.sz
     ·rw [if_pos (by omega),if_pos c1,p,if_pos c0]
     ·rw [if_neg c1]
      by_cases c2:k<j.toNat*r.sz+cs.length
      ·rw [if_pos c2,qC (by omega)]
       by_cases c3:k-j.toNat*r.sz<off
       ·rw [if_pos (by omega),if_pos c3,C _ (by omega),p,if_pos (by omega)]
        congr 1;omega
       ·rw [if_neg (by omega),if_neg c3]
        by_cases c4:k-j.toNat*r.sz<off+vs.length
        ·rw [if_pos (by omega),if_pos c4];congr 1;omega
        ·rw [if_neg (by omega),if_neg c4,C _ (by omega),p,if_pos (by omega)]
         congr 1;omega
      ·rw [if_neg c2,if_neg (by omega),if_neg (by omega),p,if_pos c0]
    ·rw [if_neg c0,if_neg (by omega),if_neg (by omega),p,if_neg c0]
  ·refine⟨.inl D,?_⟩;have:c=b:=by rw [G]at D;simpa [Th.blocks,ob,kT]using D
   subst this;exact hW.blk.lt
end
theorem xO {ρ:Env}{s len:Nat}{zs vs cs:List Value}{parts:List (Nat×Operand)} (D:0<s) (hi:parts.map Prod.fst=List.range len) (B:parts.map (λp=>ev ρ p.2)=vs) (E:aXb s vs) (G:vs.flatMap (λv=>v.cells.toList)=cs):
  uA s len zs (parts.map λp=>(p.1,ev ρ p.2))=some cs:=by
 have H:vs.length=len:=by rw [<-B,List.length_map];have:=congrArg List.length hi;simpa using this
 have e:(parts.map λp=>(p.1,ev ρ p.2))=(vs.zipIdx 0).map λx=>(x.2,x.1):=by
  apply List.ext_getElem?;intro i
  by_cases h:i<len
  ·have A:i<parts.length:=by have:=congrArg List.length hi;simp at this;omega
   have f:(parts.map Prod.fst)[i]? =(List.range len)[i]? :=by rw [hi]
   have C:(parts.map λp=>ev ρ p.2)[i]? =vs[i]? :=by rw [B]
   simp only [List.getElem?_map,gE A,Option.map_some]at f C⊢;rw [List.getElem?_range h]at f;rw [List.getElem?_zipIdx,<-C];simp at f;simp [f]
  ·have A:parts.length<=i:=by have:=congrArg List.length hi;simp at this;omega
   rw [List.getElem?_eq_none (by simpa using A),List.getElem?_eq_none (by simp;omega)]
 rw [e,<-G];exact aUw D (aPa E) H
def nilV:Value->Bool
 | .slice a _ _=>a.isNone
 |_=>false
def Fz.nl (v:Value)(b:Bool):Fz:=⟨λ_ _=>nilV v=b,λ_ h=>h⟩
section
variable {P:Program}{ρ:Env}{w w0:World}{d:Option Tmp}{x y:Operand}{t u ty e:TypeId}{pos:String}{af:Array Edge}{g:Option (Nat×Bool)}{v:Value}{O S:List Nat}{l:List Th}{α:Type}{r:Rp α}{xl:List α}{a:α}{j:Int}
theorem Do_eqlnl {b:Bool}(f:P.underlying t=some (.slice e))(h: ∃a n c,v= .slice a n c)(p:ev ρ x=v)(A:ev ρ y= .slice none 0 0)(B:nilV v=b):Do P ⟨d,.binOp .eql t x y u,ty,pos,af,g⟩ ρ w (.bool b) w:=by
 obtain⟨a,n,c,rfl⟩:=h;exact yQ (aEt f p A) (congrArg Value.bool B)
theorem own_sl {F:Nat->Prop}(h: ∃xs,rows r F w xs xl/\w.ownsRow 0 e r.sz v xl.length xs): ∃a n c,v= .slice a n c:=by obtain⟨a,c,h⟩:=Sr.len (Sr.xJ h);exact⟨a,_,c,h⟩
theorem Lx_makeN {bytes:Nat}{zv:Value} (B:P.underlying t=some (.slice e)) (C:El P e r.sz bytes [zv]) (f:r.sz=1) (D: ∀F w,r.rd F w [zv] a) (E:ev ρ x= .int .i64 j) (G:ev ρ y= .int .i64 j) (hm:make' bytes j a=some xl) (H:Hd O w0 w S l):
    ∃v w',Do P ⟨d,.makeSlice t x y,ty,pos,af,g⟩ ρ w v w'/\Hd O w0 w' S (l++[.own r v e xl])/\nilV v=false:=by
 obtain⟨I,_,_,rfl⟩:=aDh hm;have A:(j.toNat:Int)=j:=Int.toNat_of_nonneg I;obtain⟨v,w',J,b,rfl,h⟩:=bCz (P:=P) (ρ:=ρ) (w:=w) (d:=d) (ty:=ty) (pos:=pos) (af:=af) (g:=g) (n:=j.toNat) (cs:=List.replicate j.toNat zv) B C (by rw [A];exact E) (by rw [A];exact G) (by omega) (by omega) (by rw [f];exact aDd);refine⟨_,w',J,H.add h.only (λ_=>⟨List.replicate j.toNat zv,aHs D _ _ _,?_⟩) (λL p=>?_) (xY _),rfl⟩;refine⟨by simp [f],.inr ⟨b,j.toNat,(List.replicate j.toNat zv).toArray,by simp,Nat.zero_le _,h.blk,by simp,(by rw [maxLen_eq];omega),by simp [f],?_⟩⟩;rw [List.take_of_length_le];simp [f];have:L=b:=by simpa [Th.blocks,ob,kT]using p
 subst this;exact⟨Nat.le_of_eq h.at_.symm,by rw [h.size,h.at_];omega⟩
end
end Go.Lf
