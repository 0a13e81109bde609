/- Laws that the claim stands on; no condition beyond those stated. -/
import Derived.Test.YtbjofgmdhbiekaaGreatDoorObB
import Derived.Lib.AppendStr
namespace Go.Lf
open Go.RowKit Go.OB

section plain
variable {α β γ:Type}
def gG (a:α)(k:α->Option β):Option β:=k a
def gB (a:Option α)(k:α->Option β):Option β:=
 match a with
 |some x=>k x
 |none=>none
def gJ (b:Bool)(x y:Option β):Option β:=
 match b with
 |true=>x
 |false=>y
def fP (k:γ->Option β)(m:(γ->Option β)->Option β):Option β:=m k
def bZ (body:(γ->Option β)->γ->Option β):Nat->γ->Option β
 |0,_=>none
 |n+1,g=>body (bZ body n) g
@[irreducible] def FU:Nat:=18446744073709551616
def gY (body:(γ->Option β)->γ->Option β) (g:γ):Option β:=bZ body FU g
theorem aCs {a:α}{k:α->Option β}{r:β}(h:gG a k=some r): ∃t,a=t/\k t=some r:=⟨a,rfl,h⟩
theorem yA {a:Option α}{k:α->Option β}{r:β}(h:gB a k=some r): ∃t,a=some t/\k t=some r:=by
 cases a with
 |none=>cases h
 |some x=>exact⟨x,rfl,h⟩
theorem jG {b:Bool}{x y:Option β}{r:β}(c:b=true)(h:gJ b x y=some r):x=some r:=by subst c;exact h
theorem jJ {b:Bool}{x y:Option β}{r:β}(c:b=false)(h:gJ b x y=some r):y=some r:=by subst c;exact h
theorem aVs {body:(γ->Option β)->γ->Option β}{g:γ}{r:β}(h:gY body g=some r): ∃B n,B=body/\bZ B n g=some r:=⟨body,FU,rfl,h⟩
theorem loopN_pos {B:(γ->Option β)->γ->Option β}{n:Nat}{g:γ}{r:β}(h:bZ B n g=some r): ∃m,n=m+1/\B (bZ B m) g=some r:=by
 cases n with
 |zero=>cases h
 |succ m=>exact⟨m,rfl,h⟩
def at' (l:List α)(i:Int):Option α:=if 0<=i then l[i.toNat]? else none
def set' (l:List α)(i:Int)(x:α):Option (List α):=if 0<=i/\i<l.length then some (l.set i.toNat x)else none
def sub' (l:List α)(i j:Int):Option (List α):=if 0<=i/\i<=j/\j<=l.length then some ((l.drop i.toNat).take (j-i).toNat)else none
def app' (f:Nat)(l m:List α):Option (List α):=if l.length+m.length<=maxLen/\(l.length+m.length)*f<=140737488355328 then some (l++m)else none
def uJ (k:IntKind)(a b:Int):Option Int:=if b=0 then none else some (k.wrap (a.tdiv b))
def kX (a b:Int):Option Int:=if b=0 then none else some (a.tmod b)
def jI (k:IntKind)(a b:Int):Option Int:=if 0<=b/\b<=k.bits then some (k.wrap (a*2^b.toNat))else none
def qH (k:IntKind)(a b:Int):Option Int:=if 0<=b/\b<=k.bits then some (a/2^b.toNat)else none
theorem zY {l:List α}{i:Int}{x:α} (h:at' l i=some x):0<=i/\i<l.length/\l[i.toNat]? =some x:=by
 unfold at' at h;split at h;have:=(gS.1 h).1;exact⟨by assumption,by omega,h⟩;cases h
theorem set_some {l m:List α}{i:Int}{x:α}(h:set' l i x=some m):0<=i/\i<l.length/\m=l.set i.toNat x:=by
 unfold set' at h;split at h;rename_i c;cases h;exact⟨c.1,c.2,rfl⟩;cases h
theorem aEi {l m:List α}{i j:Int}(h:sub' l i j=some m):0<=i/\i<=j/\j<=l.length/\m=(l.drop i.toNat).take (j-i).toNat:=by
 unfold sub' at h;split at h;rename_i c;cases h;exact⟨c.1,c.2.1,c.2.2,rfl⟩;cases h
theorem aRi {f:Nat}{l m r:List α}(h:app' f l m=some r):l.length+m.length<=maxLen/\(l.length+m.length)*f<=140737488355328/\r=l++m:=by
 unfold app' at h;split at h;rename_i c;cases h;exact⟨c.1,c.2,rfl⟩;cases h
theorem quo_some {k:IntKind}{a b c:Int}(h:uJ k a b=some c):b≠0/\k.wrap (a.tdiv b)=c:=by
 unfold uJ at h;split at h;cases h;cases h;exact⟨by assumption,rfl⟩
theorem rem_some {a b c:Int}(h:kX a b=some c):b≠0/\a.tmod b=c:=by
 unfold kX at h;split at h;cases h;cases h;exact⟨by assumption,rfl⟩
theorem shl_some {k:IntKind}{a b c:Int}(h:jI k a b=some c):0<=b/\b<=k.bits/\k.wrap (a*2^b.toNat)=c:=by
 unfold jI at h;split at h;rename_i q;cases h;exact⟨q.1,q.2,rfl⟩;cases h
theorem shr_some {k:IntKind}{a b c:Int}(h:qH k a b=some c):0<=b/\b<=k.bits/\a/2^b.toNat=c:=by
 unfold qH at h;split at h;rename_i q;cases h;exact⟨q.1,q.2,rfl⟩;cases h
end plain
abbrev Str:=List UInt8
def bs (s:Str):ByteArray:=⟨s.toArray⟩
theorem qW (s:Str):(bs s).size=s.length:=by simp [bs,ByteArray.size]
theorem bs_inj {s t:Str}:bs s=bs t↔s=t:=by
 constructor;intro h;have:=congrArg (λb:ByteArray=>b.data.toList) h;simpa [bs]using this;intro h;rw [h]

def Same (F F':Nat->Prop)(w w':World):Prop:= ∀b,F b->b<w.heap.size->F' b/\w'.heap[b]? =w.heap[b]?
structure Rp (α:Type) where
 sz:Nat
 rd:(Nat->Prop)->World->List Value->α->Prop
 len: ∀{F w cs x},rd F w cs x->cs.length=sz
 one: ∀{F w cs x},rd F w cs x-> ∀v∈cs,v.oneCell'=true
 mono: ∀{F F' w w' cs x},Same F F' w w'->rd F w cs x->rd F' w' cs x
section rp
variable {α β:Type}{F F':Nat->Prop}{w w':World}
def Rp.int (k:IntKind):Rp Int:=⟨1,λ_ _ cs x=>cs=[.int k x],λh=>by subst h;rfl,λh=>by subst h;simp [Value.oneCell'],λ_ h=>h⟩
def Rp.bool:Rp Bool:=⟨1,λ_ _ cs x=>cs=[.bool x],λh=>by subst h;rfl,λh=>by subst h;simp [Value.oneCell'],λ_ h=>h⟩
def Rp.str:Rp Str:=⟨1,λ_ _ cs x=>cs=[.string (bs x)],λh=>by subst h;rfl,λh=>by subst h;simp [Value.oneCell'],λ_ h=>h⟩
def Rp.pair (a:Rp α)(b:Rp β):Rp (α×β):=
  ⟨a.sz+b.sz,λF w cs x=> ∃c d,cs=c++d/\a.rd F w c x.1/\b.rd F w d x.2,
   λ⟨c,d,e,f,h⟩=>by subst e;simp [a.len f,b.len h],
   λ⟨c,d,e,f,h⟩=>by subst e;intro v A;exact(mA.1 A).elim (a.one f v) (b.one h v),
   λp ⟨c,d,e,f,h⟩=>⟨c,d,e,a.mono p f,b.mono p h⟩⟩
def Rp.iso (a:Rp α)(f:β->α):Rp β:=⟨a.sz,λF w cs x=>a.rd F w cs (f x),λh=>a.len h,λh=>a.one h,λp h=>a.mono p h⟩
def rows (r:Rp α)(F:Nat->Prop)(w:World):List Value->List α->Prop
 |cs,[]=>cs=[]
 |cs,x::l=> ∃c d,cs=c++d/\r.rd F w c x/\rows r F w d l
theorem vI {r:Rp α}: ∀{l:List α}{cs:List Value},rows r F w cs l->cs.length=l.length*r.sz
 | [],cs,h=>by unfold rows at h;subst h;simp
 |x::l,cs,h=>by
  obtain⟨c,d,rfl,f,p⟩:=h;have:=vI p;simp [r.len f,this,Nat.add_mul];omega
theorem aSt {r:Rp α}: ∀{l:List α}{cs:List Value},rows r F w cs l-> ∀v∈cs,v.oneCell'=true
 | [],cs,h=>by unfold rows at h;subst h;simp
 |x::l,cs,h=>by
  obtain⟨c,d,rfl,f,p⟩:=h;intro v A;rcases mA.1 A with h|h
  ·exact r.one f v h
  ·exact aSt p v h
theorem mW {r:Rp α}(f:Same F F' w w'): ∀{l:List α}{cs:List Value},rows r F w cs l->rows r F' w' cs l
 | [],_,h=>h
 |_::_,_,h=>by
  obtain⟨c,d,rfl,p,A⟩:=h;exact⟨c,d,rfl,r.mono f p,mW f A⟩
theorem wV {r:Rp α}: ∀{l m:List α}{cs f:List Value},rows r F w cs l->rows r F w f m->rows r F w (cs++f) (l++m)
 | [],m,cs,f,h,k=>by unfold rows at h;subst h;simpa using k
 |x::l,m,cs,f,h,k=>by
  obtain⟨c,d,rfl,p,A⟩:=h;exact⟨c,d++f,by simp,p,wV A k⟩
theorem aHm {r:Rp α}{c:List Value}{x:α}(h:r.rd F w c x):rows r F w c [x]:=⟨c,[],by simp,h,rfl⟩
theorem wR {r:Rp α}: ∀(i:Nat) {l:List α}{cs:List Value},rows r F w cs l->rows r F w (cs.drop (i*r.sz)) (l.drop i)
 |0,l,cs,h=>by simpa using h
 |i+1,[],cs,h=>by unfold rows at h;subst h;simp [rows]
 |i+1,x::l,cs,h=>by
  obtain⟨c,d,rfl,f,p⟩:=h;have A:=r.len f;rw [show(i+1)*r.sz=c.length+i*r.sz by rw [A,Nat.add_mul];omega,List.drop_append,List.drop_eq_nil_of_le (by omega),List.nil_append,show c.length+i*r.sz-c.length=i*r.sz by omega];exact wR i p
theorem aCq {r:Rp α}: ∀(i:Nat) {l:List α}{cs:List Value},rows r F w cs l->rows r F w (cs.take (i*r.sz)) (l.take i)
 |0,l,cs,h=>by simp [rows]
 |i+1,[],cs,h=>by unfold rows at h;subst h;simp [rows]
 |i+1,x::l,cs,h=>by
  obtain⟨c,d,rfl,f,p⟩:=h;have A:=r.len f;refine⟨c,d.take (i*r.sz),?_,f,aCq i p⟩;rw [show(i+1)*r.sz=c.length+i*r.sz by rw [A,Nat.add_mul];omega,List.take_append,List.take_of_length_le (by omega),show c.length+i*r.sz-c.length=i*r.sz by omega]
theorem aKy {r:Rp α}{l:List α}{cs:List Value}{i:Nat}{x:α}(h:rows r F w cs l)(p:l[i]? =some x):r.rd F w ((cs.drop (i*r.sz)).take r.sz) x:=by
 have A:=wR i h;have hi:=(gS.1 p).1;have e:l.drop i=x::l.drop (i+1):=by
  rw [List.drop_eq_getElem_cons hi];congr 1;exact(gS.1 p).2
 rw [e]at A;obtain⟨c,d,f,B,_⟩:=A;rw [f,<-r.len B,List.take_left']
 ·exact B
 ·rfl
theorem aRx {r:Rp α}{l:List α}{cs c:List Value}{i:Nat}{x:α}(h:rows r F w cs l)(hi:i<l.length)(f:r.rd F w c x):rows r F w (splice cs (i*r.sz) c) (l.set i x):=by
 have p:=aCq i h;have A:=wR (i+1) h;have e:l.set i x=l.take i++([x]++l.drop (i+1)):=by rw [List.set_eq_take_append_cons_drop,if_pos hi];simp
 rw [e];unfold splice;rw [List.append_assoc];refine wV p (wV (aHm f) ?_);rw [r.len f,show i*r.sz+r.sz=(i+1)*r.sz by rw [Nat.add_mul];omega];exact A
def ints (k:IntKind)(l:List Int):List Value:=l.map (Value.int k)
theorem aAi {k:IntKind}: ∀{l:List Int}{cs:List Value},rows (Rp.int k) F w cs l↔cs=ints k l
 | [],cs=>Iff.rfl
 |x::l,cs=>by
  constructor
  ·rintro⟨c,d,rfl,f,h⟩;have f:c=[.int k x]:=f;rw [f,aAi.1 h];rfl
  ·rintro rfl;exact⟨[.int k x],ints k l,rfl,rfl,aAi.2 rfl⟩
def SlF (r:Rp α)(F:Nat->Prop)(w:World)(v:Value)(l:List α):Prop:=
 ∃xs,rows r F w xs l/\SlR w v r.sz l.length xs/\(0<l.length-> ∀b,qG v=some b->F b/\b<w.heap.size)
theorem SlR.same {s n:Nat}{v:Value}{xs:List Value} (h:SlR w v s n xs) (B:0<n-> ∀b,qG v=some b->w'.heap[b]? =w.heap[b]?):SlR w' v s n xs:=by
 obtain⟨A,h⟩:=h;refine⟨A,?_⟩;rcases h with h|⟨a,cap,rfl,C,D,E,G⟩
 ·exact .inl h
 ·refine .inr ⟨a,cap,rfl,C,D,E,?_⟩;rcases Nat.eq_zero_or_pos n with f|f
  ·intro i v p;have:=(gS.1 p).1;rw [A,f]at this;omega
  ·intro i v p;have H:=B f a.block rfl;have:=G i v p;rw [World.cell?_of_block (w:=w) (by rw [Addr.add_block];exact H)];exact this
theorem SlF.mono {r:Rp α}{v:Value}{l:List α}(B:Same F F' w w')(h:SlF r F w v l):SlF r F' w' v l:=by
 obtain⟨xs,D,E,C⟩:=h;refine⟨xs,mW B D,SlR.same E λf b A=>(B b (C f b A).1 (C f b A).2).2,λf b A=>?_⟩;have q:=C f b A;have p:=B b q.1 q.2;refine⟨p.1,?_⟩;have e:w.heap[b]? =some w.heap[b]:=Array.getElem?_eq_getElem q.2;rw [e]at p;exact(Array.getElem?_eq_some_iff.1 p.2).1
theorem SlR.one {s n:Nat}{v:Value}{xs:List Value}(h:SlR w v s n xs):v.oneCell'=true:=by
 obtain⟨a,c,rfl⟩:=h.shape;rfl
def Rp.sl (r:Rp α):Rp (List α):=
 ⟨1,λF w cs l=> ∃v,cs=[v]/\SlF r F w v l,λ⟨v,e,_⟩=>by subst e;rfl,λ⟨v,e,_,_,f,_⟩=>by subst e;simpa using SlR.one f,λp ⟨v,e,h⟩=>⟨v,e,SlF.mono p h⟩⟩
theorem SlF.nil {r:Rp α}:SlF r F w (.slice none 0 0) []:=⟨[],rfl,SlR.nil,λh=>by simp at h⟩
theorem SlF.len {r:Rp α}{v:Value}{l:List α}(h:SlF r F w v l): ∃a c,v= .slice a l.length c:=h.choose_spec.2.1.shape
end rp

structure Fz where
 p:(Nat->Prop)->World->Prop
 mono: ∀{F F' w w'},Same F F' w w'->p F w->p F' w'
def Fz.sl {α:Type}(r:Rp α)(v:Value)(l:List α):Fz:=⟨λF w=>SlF r F w v l,λf h=>SlF.mono f h⟩
theorem Cells.same {F F':Nat->Prop}{w w':World}{b o:Nat}{cs:List Value} (A:Same F F' w w') (B:F b) (f:b<w.heap.size) (h:Cells w ⟨b,o,none⟩ cs):F' b/\b<w'.heap.size/\Cells w' ⟨b,o,none⟩ cs:=by
 have p:=A b B f;refine⟨p.1,?_,λi v C=>?_⟩;have e:w.heap[b]? =some w.heap[b]:=Array.getElem?_eq_getElem f;rw [e]at p;exact(Array.getElem?_eq_some_iff.1 p.2).1;rw [World.cell?_of_block (w:=w) (by rw [Addr.add_block];exact p.2)];exact h i v C
def Fz.at (b o:Nat)(cs:List Value):Fz:=⟨λF w=>F b/\b<w.heap.size/\Cells w ⟨b,o,none⟩ cs,λf ⟨h,p,A⟩=>Cells.same f h p A⟩
structure Rt (α:Type) where
 sz:Nat
 rd:(Nat->Prop)->World->List Value->List Nat->α->Prop
 len: ∀{F w cs bs x},rd F w cs bs x->cs.length=sz
 one: ∀{F w cs bs x},rd F w cs bs x-> ∀v∈cs,v.oneCell'=true
 mono: ∀{F F' w w' cs bs x},Same F F' w w'->(∀b∈bs,w'.heap[b]? =w.heap[b]?)->rd F w cs bs x->rd F' w' cs bs x
def StB (f:Array MapEntry)(c:Nat):Prop:=(∀e∈f.toList,e.born<c)/\(f.toList.map (·.born)).Nodup
inductive Th:Type 1 where
 |tr {α:Type} (r:Rt α) (cs:List Value) (bs:List Nat) (x:α)
 |blk (b:Nat) (cs:List Value) (T:TypeId)
 |arr {α:Type} (r:Rp α) (b:Nat) (l:List α) (T:TypeId)
 |own {α:Type} (r:Rp α) (v:Value) (e:TypeId) (l:List α)
 |mp (b:Nat) (m:List (Value×Value))
 |fz (p:Fz)
def Th.blocks:Th->List Nat
 | .tr _ _ bs _=>bs
 | .blk b _ _=>[b]
 | .arr _ b _ _=>[b]
 | .own _ v _ _=>ob v
 | .mp b _=>[b]
 | .fz _=>[]
def Th.holds (F:Nat->Prop)(w:World):Th->Prop
 | .tr r cs bs x=>r.rd F w cs bs x
 | .blk b cs T=>Blk w b cs T
 | .arr r b l T=> ∃xs,rows r F w xs l/\Blk w b xs T
 | .own r v e l=> ∃xs,rows r F w xs l/\w.ownsRow 0 e r.sz v l.length xs
 | .mp b m=> ∃(f:Array MapEntry) (c:Nat),w.heap[b]? =some (.map f c)/\f.toList.map (λe=>(e.key,e.val))=m/\StB f c
 | .fz p=>p.p F w
def bks (l:List Th):List Nat:=l.flatMap Th.blocks
def frees (O:List Nat)(l:List Th):Nat->Prop:=λb=>b∉O/\b∉bks l
structure Hd (O:List Nat)(w0 w:World)(S:List Nat)(l:List Th):Prop where
 only:Only S w0 w
 holds: ∀it∈l,it.holds (frees O l) w
 own: ∀it∈l,∀b∈it.blocks,(w0.heap.size<=b\/b∈S)/\b<w.heap.size
 nd:(bks l).Nodup
 fo: ∀b∈O,b<w0.heap.size/\b∉S
theorem aQp {w w':World}{b:Nat}{cs:List Value}{T:TypeId}(h:Blk w b cs T)(e:w'.heap[b]? =w.heap[b]?):Blk w' b cs T:=by unfold Blk at *;rw [e];exact h
theorem owns_same {w w':World}{B:Nat}{v:Value}{e s n:Nat}{xs:List Value} (h:w.ownsRow B e s v n xs) (p: ∀b∈ob v,w'.heap[b]? =w.heap[b]?):w'.ownsRow B e s v n xs:=by
 refine⟨h.1,?_⟩;rcases h.2 with A|⟨g,cap,f,rfl,C,D,rest⟩
 ·exact .inl A
 ·refine .inr ⟨g,cap,f,rfl,C,?_,rest⟩;rw [p g (by simp [ob,qG])];exact D
theorem Th.same {F F':Nat->Prop}{w w':World}{C:Th}(h:C.holds F w)(D:Same F F' w w')(f: ∀b∈C.blocks,w'.heap[b]? =w.heap[b]?):C.holds F' w':=by
 cases C with
 |tr r cs bs x=>exact r.mono D f h
 |blk b cs T=>exact aQp h (f b (by simp [Th.blocks]))
 |arr r b l T=>obtain⟨xs,A,B⟩:=h;exact⟨xs,mW D A,aQp B (f b (by simp [Th.blocks]))⟩
 |own r v e l=>obtain⟨xs,A,B⟩:=h;exact⟨xs,mW D A,owns_same B f⟩
 |mp b m=>obtain⟨E,c,A,B⟩:=h;exact⟨E,c,(f b (by simp [Th.blocks])).trans A,B⟩
 |fz p=>exact p.mono D h
theorem aI {l:List Th}{b:Nat}:b∈bks l↔ ∃f∈l,b∈f.blocks:=List.mem_flatMap
theorem tC (l m:List Th):bks (l++m)=bks l++bks m:=by simp [bks]
theorem aAj {l:List Th}:(bks l).Nodup↔(∀f∈l,f.blocks.Nodup)/\l.Pairwise λa b=> ∀x∈a.blocks,∀y∈b.blocks,x≠y:=by
 unfold bks List.Nodup;exact List.pairwise_flatMap
section sep
variable {O S:List Nat}{w0 w w':World}{l:List Th}{i:Nat}
theorem Hd.V (H:Hd O w0 w S l){f:Th}(hi:l[i]? =some f):f.holds (frees O l) w:=H.holds f (qS hi)
theorem Hd.lt (H:Hd O w0 w S l){b:Nat}(f:b∈bks l):b<w.heap.size:=by
 obtain⟨h,hm,f⟩:=aI.1 f;exact(H.own h hm b f).2
theorem wU {w w':World}(f:Only [] w w'){b:Nat}(h:b<w.heap.size):w'.heap[b]? =w.heap[b]? :=f.block b h (by simp)
theorem Hd.step (H:Hd O w0 w S l)(p:Only [] w w'):Hd O w0 w' S l:=
  ⟨H.only.trans (p.mono (by simp)),λh hm=>Th.same (H.holds h hm) (λb f A=>⟨f,wU p A⟩) (λb f=>wU p (H.own h hm b f).2),
   λh hm b f=>⟨(H.own h hm b f).1,Nat.lt_of_lt_of_le (H.own h hm b f).2 p.size⟩,H.nd,H.fo⟩
theorem Hd.Z (H:Hd O w0 w S l)(f:fJ w w'):Hd O w0 w' S l:=H.step (Only.of_below f)
theorem Hd.add (H:Hd O w0 w S l) (D:Only [] w w') {A:Th} (hh:Same (frees O l) (frees O (l++[A])) w w'->A.holds (frees O (l++[A])) w') (B: ∀b∈A.blocks,w.heap.size<=b/\b<w'.heap.size) (G:A.blocks.Nodup):Hd O w0 w' S (l++[A]):=by
 have E:Same (frees O l) (frees O (l++[A])) w w':=by
  intro b C I;refine⟨⟨C.1,?_⟩,wU D I⟩;rw [tC,mA];rintro(h|h)
  ·exact C.2 h
  ·have:=(B b (by simpa [bks]using h)).1;omega
 refine⟨H.only.trans (D.mono (by simp)),?_,?_,?_,H.fo⟩
 ·intro x f;rcases mA.1 f with f|f
  ·exact Th.same (H.holds x f) E (λb B=>wU D (H.own x f b B).2)
  ·obtain rfl:=mS.1 f;exact hh E
 ·intro x f b p;rcases mA.1 f with f|f
  ·exact⟨(H.own x f b p).1,Nat.lt_of_lt_of_le (H.own x f b p).2 D.size⟩
  ·obtain rfl:=mS.1 f;exact⟨.inl (Nat.le_trans H.only.size (B b p).1),(B b p).2⟩
 ·rw [tC,List.nodup_append];refine⟨H.nd,by simpa [bks]using G,?_⟩;intro a J c L;have:=H.lt J;have:=(B c (by simpa [bks]using L)).1;omega
theorem Hd.fz (H:Hd O w0 w S l)(p:Fz)(f:p.p (frees O l) w):Hd O w0 w S (l++[.fz p]):=
 H.add (Only.refl [] w) (λh=>p.mono h f) (by simp [Th.blocks]) (by simp [Th.blocks])
theorem Hd.alloc {b:Nat}{cs:List Value}{T:TypeId}(H:Hd O w0 w S l)(f:Al w w' b cs T):Hd O w0 w' S (l++[.blk b cs T]):=
 H.add f.only (λ_=>f.blk) (by intro c h;obtain rfl:=mS.1 h;exact⟨Nat.le_of_eq f.at_.symm,by rw [f.at_,f.size];omega⟩) (by simp [Th.blocks])
theorem aNg (v:Value):(ob v).Nodup:=by unfold ob;cases qG v<;>simp
theorem Hd.turn (H:Hd O w0 w S l) {D p:Th} (hi:l[i]? =some D) (I:Only D.blocks w w') (hh:Same (frees O l) (frees O (l.set i p)) w w'->p.holds (frees O (l.set i p)) w')
  (J: ∀b∈p.blocks,(b∈D.blocks\/w.heap.size<=b)/\b<w'.heap.size) (hn:p.blocks.Nodup):Hd O w0 w' S (l.set i p):=by
 have M:=(gS.1 hi).1;have e1:l=l.take i++D::l.drop (i+1):=by
  have:=List.take_append_drop i l;rw [List.drop_eq_getElem_cons M,(gS.1 hi).2]at this;exact this.symm
 have e2:l.set i p=l.take i++p::l.drop (i+1):=by rw [List.set_eq_take_append_cons_drop,if_pos M]
 have L:=H.nd;rw [aAj]at L;have hp:=L.2;rw [e1,List.pairwise_append,List.pairwise_cons]at hp;obtain⟨p1,⟨p2,p3⟩,p4⟩:=hp;have A: ∀x∈l.take i++l.drop (i+1),(∀b∈x.blocks,b∉D.blocks/\b<w.heap.size)/\x∈l:=by
  intro x f;have R:x∈l:=by
   rcases mA.1 f with h|h
   ·exact List.mem_of_mem_take h
   ·exact List.mem_of_mem_drop h
  refine⟨λb J=>⟨λX=>?_,(H.own x R b J).2⟩,R⟩;rcases mA.1 f with h|h
  ·exact p4 x h D List.mem_cons_self b J b X rfl
  ·exact p2 x h b X b J rfl
 have C: ∀x,x∈l.set i p↔x=p\/x∈l.take i++l.drop (i+1):=by
  intro x;rw [e2];simp only [mA,List.mem_cons];constructor
  ·rintro(h|h|h)
   ·exact .inr (.inl h)
   ·exact .inl h
   ·exact .inr (.inr h)
  ·rintro(h|h|h)
   ·exact .inr (.inl h)
   ·exact .inl h
   ·exact .inr (.inr h)
 have E:D∈l:=qS hi;have same:Same (frees O l) (frees O (l.set i p)) w w':=by
  intro b G hl;refine⟨⟨G.1,λhm=>?_⟩,I.block b hl (λh=>G.2 (aI.2 ⟨D,E,h⟩))⟩;obtain⟨x,f,B⟩:=aI.1 hm;rcases(C x).1 f with rfl|f
  ·rcases(J b B).1 with h|h
   ·exact G.2 (aI.2 ⟨D,E,h⟩)
   ·omega
  ·exact G.2 (aI.2 ⟨x,(A x f).2,B⟩)
 refine⟨⟨I.os.trans H.only.os,I.tape.trans H.only.tape,I.output.trans H.only.output,Nat.le_trans H.only.size I.size,λk hk Y=>?_⟩,?_,?_,?_,H.fo⟩
 ·have ac:=Nat.lt_of_lt_of_le hk H.only.size;rw [I.block k ac (λh=>?_),H.only.block k hk Y];rcases(H.own D E k h).1 with h|h
  ·omega
  ·exact Y h
 ·intro x f;rcases(C x).1 f with rfl|f
  ·exact hh same
  ·exact Th.same (H.holds x (A x f).2) same (λb aa=>I.block b ((A x f).1 b aa).2 ((A x f).1 b aa).1)
 ·intro x f b B;rcases(C x).1 f with rfl|f
  ·refine⟨?_,(J b B).2⟩;rcases(J b B).1 with h|h
   ·exact(H.own D E b h).1
   ·exact .inl (Nat.le_trans H.only.size h)
  ·exact⟨(H.own x (A x f).2 b B).1,Nat.lt_of_lt_of_le ((A x f).1 b B).2 I.size⟩
 ·rw [aAj];refine⟨λx f=>?_,?_⟩
  ·rcases(C x).1 f with rfl|f
   ·exact hn
   ·exact L.1 x (A x f).2
  ·rw [e2,List.pairwise_append,List.pairwise_cons];have far: ∀x∈l.take i++l.drop (i+1),∀a∈x.blocks,∀c∈p.blocks,a≠c:=by
    intro x f a ha c hc e;subst e;rcases(J a hc).1 with h|h
    ·exact((A x f).1 a ha).1 h
    ·have:=((A x f).1 a ha).2;omega
   refine⟨p1,⟨λx f a ha c hc e=>far x (List.mem_append_right _ f) c hc a ha e.symm,p3⟩,?_⟩;intro x f y hy;rcases List.mem_cons.1 hy with rfl|hy
   ·exact far x (List.mem_append_left _ f)
   ·exact p4 x f y (List.mem_cons_of_mem _ hy)
theorem Hd.wr {b:Nat}{cs cs':List Value}{T:TypeId}(H:Hd O w0 w S l)(hi:l[i]? =some (.blk b cs T))(f:Wr w w' b cs' T):Hd O w0 w' S (l.set i (.blk b cs' T)):=
 H.turn hi f.only (λ_=>f.blk) (by intro c h;obtain rfl:=mS.1 h;exact⟨.inl (by simp [Th.blocks]),f.blk.lt⟩) (by simp [Th.blocks])
theorem Hd.apart (H:Hd O w0 w S l){j:Nat}{B x:Th}(hi:l[i]? =some B)(p:l[j]? =some x)(G:i≠j): ∀b∈B.blocks,b∉x.blocks:=by
 have A:=(aAj.1 H.nd).2;rw [List.pairwise_iff_getElem]at A;obtain⟨C,hi⟩:=gS.1 hi;obtain⟨D,p⟩:=gS.1 p;intro b E f;rcases Nat.lt_or_gt_of_ne G with h|h
 ·exact A i j C D h b (hi▸E) b (p▸f) rfl
 ·exact A j i D C h b (p▸f) b (hi▸E) rfl
theorem Hd.notO (H:Hd O w0 w S l){f:Th}(hm:f∈l){b:Nat}(p:b∈f.blocks):b∉O:=by
 intro A;have:=H.fo b A;rcases(H.own f hm b p).1 with h|h
 ·omega
 ·exact this.2 h
theorem aXw {l:List Th}{i:Nat}{p:Th}{b:Nat} (h:b∈bks (l.set i p)):b∈p.blocks\/ ∃j x,j≠i/\l[j]? =some x/\b∈x.blocks:=by
 obtain⟨x,C,B⟩:=aI.1 h;obtain⟨j,f⟩:=List.getElem?_of_mem C;rw [List.getElem?_set]at f;split at f;split at f;cases f;exact .inl B;cases f;rename_i A;exact .inr ⟨j,x,λe=>A e.symm,f,B⟩
theorem Hd.freeze {α:Type}{r:Rp α}{v:Value}{e:TypeId}{xl:List α}(H:Hd O w0 w S l)(hi:l[i]? =some (.own r v e xl)):Hd O w0 w S (l.set i (.fz (.sl r v xl))):=by
 refine H.turn hi (Only.refl _ w) (λA=>?_) (by simp [Th.blocks]) (by simp [Th.blocks]);obtain⟨xs,B,C⟩:=H.V hi;refine⟨xs,mW A B,aKr C,λ_ b D=>?_⟩;have f:b∈(Th.own r v e xl).blocks:=uK.2 D;refine⟨⟨H.notO (qS hi) f,λhm=>?_⟩,(H.own _ (qS hi) b f).2⟩;rcases aXw hm with h|⟨j,x,E,G,p⟩
 ·simp [Th.blocks]at h
 ·exact H.apart G hi E b p f
def pick (f:List Nat)(l:List Th):List Th:=f.filterMap (λi=>l[i]?)
theorem rF {f:List Nat}{x:Th}:x∈pick f l↔ ∃i∈f,l[i]? =some x:=by unfold pick;rw [List.mem_filterMap]
theorem aJn {f:List Nat}{b:Nat}(h:b∈bks (pick f l)): ∃i∈f,∃x,l[i]? =some x/\b∈x.blocks:=by
 obtain⟨x,p,A⟩:=aI.1 h;obtain⟨i,hi,p⟩:=rF.1 p;exact⟨i,hi,x,p,A⟩
theorem dV {f:List Nat}{b:Nat}(h:b∈bks (pick f l)):b∈bks l:=by
 obtain⟨i,_,x,p,A⟩:=aJn h;exact aI.2 ⟨x,qS p,A⟩
theorem Hd.pick_nd (H:Hd O w0 w S l) {f:List Nat} (A:f.Nodup):(bks (pick f l)).Nodup:=by
 rw [aAj];refine⟨λx h=>?_,?_⟩;obtain⟨i,_,h⟩:=rF.1 h;exact(aAj.1 H.nd).1 x (qS h);unfold pick;rw [List.pairwise_filterMap];exact A.imp λ {i j} p x h y B a C c D e=>by subst e;exact H.apart h B p a C D
theorem Hd.U (H:Hd O w0 w S l) (p:List Nat) (B:p.Nodup:=by decide):Hd O w0 w S (pick p l):=by
 refine⟨H.only,λx f=>?_,λx f b A=>?_,H.pick_nd B,H.fo⟩;obtain⟨i,_,f⟩:=rF.1 f;exact Th.same (H.V f) (λb A _=>⟨⟨A.1,λh=>A.2 (dV h)⟩,rfl⟩) (λ_ _=>rfl);obtain⟨i,_,f⟩:=rF.1 f;exact H.own x (qS f) b A
def aMx (f:List Nat)(n:Nat):List Nat:=(List.range n).filter λi=> !f.contains i
def rest (f:List Nat)(l:List Th):List Th:=pick (aMx f l.length) l
theorem restI_nd (f:List Nat)(n:Nat):(aMx f n).Nodup:=List.nodup_range.filter _
theorem mem_restI {f:List Nat}{n i:Nat}(h:i∈aMx f n):i∉f:=by
 unfold aMx at h;rw [List.mem_filter]at h;simpa using h.2
def aTu (l:List Th)(i:Nat):Bool:=match l[i]? with
 |some (.fz _)=>true
 |_=>false
theorem aQd {l:List Th}{x:Th}(h:aTu l i=true)(f:l[i]? =some x):x.blocks=[]:=by
 unfold aTu at h;rw [f]at h;cases x<;>simp_all [Th.blocks]
theorem Hd.rest_apart (H:Hd O w0 w S l){A B:List Nat}(D:B.all (aTu l)=true){b:Nat}(E:b∈bks (rest A l)):b∉bks (Go.Lf.pick (A++B) l):=by
 intro h;obtain⟨j,G,y,I,p⟩:=aJn E;obtain⟨i,hi,x,C,f⟩:=aJn h;rcases mA.1 hi with hi|hi
 ·exact H.apart C I (λe=>mem_restI G (e▸hi)) b f p
 ·rw [aQd (List.all_eq_true.1 D i hi) C]at f;cases f
theorem Hd.W (H:Hd O w0 w S l) (A B:List Nat) (D:(A++B).Nodup:=by decide) (E:B.all (aTu l)=true:=by exact rfl):
  Hd (O++bks (rest A l)) w w (bks (Go.Lf.pick (A++B) l)) (Go.Lf.pick (A++B) l):=by
 refine⟨Only.refl _ w,λx f=>?_,λx f b p=>⟨.inr (aI.2 ⟨x,f,p⟩),?_⟩,H.pick_nd D,λb p=>?_⟩
 ·obtain⟨i,_,f⟩:=rF.1 f;refine Th.same (H.V f) (λb p _=>⟨⟨λh=>?_,λh=>p.2 (dV h)⟩,rfl⟩) (λ_ _=>rfl);rcases mA.1 h with h|h
  ·exact p.1 h
  ·exact p.2 (dV h)
 ·obtain⟨i,_,f⟩:=rF.1 f;exact(H.own x (qS f) b p).2
 ·rcases mA.1 p with h|h
  ·have:=H.fo b h;refine⟨Nat.lt_of_lt_of_le this.1 H.only.size,λhm=>?_⟩;obtain⟨x,f,C⟩:=aI.1 (dV hm);exact H.notO f C h
  ·exact⟨H.lt (dV h),H.rest_apart E h⟩
theorem Hd.back {l2:List Th} (H:Hd O w0 w S l) (C I:List Nat) (J:I.all (aTu l)=true)
  (G:Hd (O++bks (rest C l)) w w' (bks (Go.Lf.pick (C++I) l)) l2):Hd O w0 w' S (rest C l++l2):=by
 have far: ∀b∈bks (rest C l),b∉bks l2:=by
  intro b f h;obtain⟨x,A,p⟩:=aI.1 h;rcases(G.own x A b p).1 with h|h
  ·have:=H.lt (dV f);omega
  ·exact H.rest_apart J f h
 have same:Same (frees O l) (frees O (rest C l++l2)) w w':=by
  intro b f M;refine⟨⟨f.1,λhm=>?_⟩,G.only.block b M (λh=>f.2 (dV h))⟩;rw [tC,mA]at hm;rcases hm with h|h
  ·exact f.2 (dV h)
  ·obtain⟨x,A,p⟩:=aI.1 h;rcases(G.own x A b p).1 with h|h
   ·omega
   ·exact f.2 (dV h)
 refine⟨⟨G.only.os.trans H.only.os,G.only.tape.trans H.only.tape,G.only.output.trans H.only.output,Nat.le_trans H.only.size G.only.size,λk L D=>?_⟩,λx A=>?_,λx A b f=>?_,?_,H.fo⟩
 ·rw [G.only.block k (Nat.lt_of_lt_of_le L H.only.size) (λh=>?_),H.only.block k L D];obtain⟨x,A,p⟩:=aI.1 (dV h);rcases(H.own x A k p).1 with h|h
  ·omega
  ·exact D h
 ·rcases mA.1 A with h|h
  ·obtain⟨i,hi,B⟩:=rF.1 h;refine Th.same (H.V B) same (λb f=>G.only.block b (H.own x (qS B) b f).2 (H.rest_apart J (aI.2 ⟨x,h,f⟩)))
  ·refine Th.same (G.holds x h) (λb f _=>⟨⟨λR=>f.1 (List.mem_append_left _ R),λhm=>?_⟩,rfl⟩) (λ_ _=>rfl);rw [tC,mA]at hm;rcases hm with hm|hm
   ·exact f.1 (List.mem_append_right _ hm)
   ·exact f.2 hm
 ·rcases mA.1 A with h|h
  ·obtain⟨i,hi,B⟩:=rF.1 h;have:=H.own x (qS B) b f;exact⟨this.1,Nat.lt_of_lt_of_le this.2 G.only.size⟩
  ·have:=G.own x h b f;refine⟨?_,this.2⟩;rcases this.1 with h|h
   ·exact .inl (Nat.le_trans H.only.size h)
   ·obtain⟨y,X,E⟩:=aI.1 (dV h);exact(H.own y X b E).1
 ·rw [tC,List.nodup_append];exact⟨H.pick_nd (restI_nd _ _),G.nd,λa Y c hc e=>far a Y (e▸hc)⟩
theorem aRm: ∀(l pre:List Th),(List.range' pre.length l.length).filterMap (λi=>(pre++l)[i]?)=l
 | [],pre=>by simp
 |x::l,pre=>by
  rw [List.length_cons,List.range'_succ,List.filterMap_cons];have h:(pre++x::l)[pre.length]? =some x:=by simp
  rw [h];have f:=aRm l (pre++[x]);simp only [List.length_append,List.length_cons,List.length_nil,Nat.zero_add,List.append_assoc,List.singleton_append]at f;simp only [f]
theorem rest_nil (l:List Th):rest [] l=l:=by
 have h:aMx [] l.length=List.range' 0 l.length:=by unfold aMx;rw [List.range_eq_range',List.filter_eq_self];simp
 unfold rest Go.Lf.pick;rw [h];exact aRm l []
theorem Hd.back1 {l2:List Th}(H:Hd O w0 w S l)(f:List Nat)(h:f.all (aTu l)=true)
    (G:Hd (O++bks (rest [] l)) w w' (bks (Go.Lf.pick ([]++f) l)) l2):Hd O w0 w' S (l++l2):=by
 have:=H.back [] f h G;rwa [rest_nil]at this
theorem Hd.back0 (H:Hd O w0 w S l)(f:List Nat)(h:f.all (aTu l)=true)
    (G:Hd (O++bks (rest [] l)) w w' (bks (Go.Lf.pick ([]++f) l)) []):Hd O w0 w' S l:=by
 have:=H.back1 f h G;rwa [List.append_nil]at this
end sep

section
variable {P:Program}{ρ:Env}{w w0 w1:World}{d:Option Tmp}{x y z:Operand}{t u ty e:TypeId}{pos:String}{af:Array Edge}{g:Option (Nat×Bool)}
variable {v:Value}{b o i n c s:Nat}{k k':IntKind}{cs xs vs:List Value}{T:TypeId}{O S:List Nat}{l:List Th}{α:Type}{r:Rp α}{xl yl zl:List α}{a:α}{j:Int}{F:Nat->Prop}

theorem yQ (h:SlF r F w v xl)(f:at' xl j=some a): ∃b o cap cs,v= .slice (some ⟨b,o,none⟩) xl.length cap/\r.rd F w cs a/\F b/\b<w.heap.size/\Cells w ⟨b,o+j.toNat*r.sz,none⟩ cs:=by
 obtain⟨_,_,f⟩:=zY f;obtain⟨xs,B,C,D⟩:=h;have p:0<xl.length:=by omega
 obtain⟨b,o,cap,rfl,-,-,E⟩:=C.some p;have A:=D p b rfl;exact⟨b,o,cap,_,rfl,aKy B f,A.1,A.2,E.drop _ _⟩
theorem own_at0 (h: ∃xs,rows r F w xs xl/\w.ownsRow 0 e r.sz v xl.length xs)(p:at' xl j=some a): ∃b cap cs,v= .slice (some ⟨b,0,none⟩) xl.length cap/\r.rd F w cs a/\Cells w ⟨b,j.toNat*r.sz,none⟩ cs:=by
 obtain⟨_,_,p⟩:=zY p;obtain⟨xs,A,C⟩:=h;obtain⟨b,cap,_,rfl,E,-,-⟩:=owns_some C (by omega);refine⟨b,cap,_,rfl,aKy A p,λi v f=>?_⟩;have B:=vI A;rw [Addr.add_none];refine E.cell ?_;have hi:(xs.drop (j.toNat*r.sz))[i]? =some v:=by
  rw [List.getElem?_take]at f;split at f
  ·exact f
  ·cases f
 rw [List.getElem?_drop]at hi;rw [List.getElem?_append_left (gS.1 hi).1];exact hi
theorem wC (h: ∃xs,rows r F w xs xl/\w.ownsRow 0 e r.sz v xl.length xs)(f:at' xl j=some a): ∃b cap cs,v= .slice (some ⟨b,0,none⟩) xl.length cap/\r.rd F w cs a/\Cells w ⟨b,0+j.toNat*r.sz,none⟩ cs:=by
 obtain⟨b,cap,cs,p,A,B⟩:=own_at0 h f;exact⟨b,cap,cs,p,A,by rw [Nat.zero_add];exact B⟩
def Sr (r:Rp α)(F:Nat->Prop)(w:World)(v:Value)(l:List α):Prop:= ∃xs,rows r F w xs l/\SlR w v r.sz l.length xs
theorem Sr.of_rd (h:SlF r F w v xl):Sr r F w v xl:=⟨_,h.choose_spec.1,h.choose_spec.2.1⟩
theorem Sr.xE (h: ∃xs,rows r F w xs xl/\w.ownsRow 0 e r.sz v xl.length xs):Sr r F w v xl:=⟨_,h.choose_spec.1,aKr h.choose_spec.2⟩
theorem Sr.len (h:Sr r F w v xl): ∃a c,v= .slice a xl.length c:=h.choose_spec.2.shape
theorem aOn {h:Array Field}{f:Field}{m:Nat}(p:P.underlying t=some (.struct h))(A:h[i]? =some f)(B:Sz P f.type n)(C:n≠0)(D:ev ρ x= .pointer (some ⟨b,o,none⟩))(hm:o+f.offset=m):
    Do P ⟨d,.fieldAddr t x i,ty,pos,af,g⟩ ρ w (.pointer (some ⟨b,m,none⟩)) w:=by
 subst hm;unfold Do;simp [execOp,Instr.fieldAt,Instr.sureAddr,fieldPlace,D,A,run_underlying p,bC B,C,Addr.add_none]
theorem wI {bytes:Nat}{zs:List Value}{p:Value}(H:Hd O w0 w S l)(hi:l[i]? =some (.own r v e xl))(B:P.underlying t=some (.slice e))(C:El P e r.sz bytes zs)(D:ev ρ x=v)(E:ev ρ y=p)
    (G:Sr r (frees O l) w p yl)(I:app' bytes xl yl=some zl):
    ∃f w',Do P ⟨d,.call {callee:= .builtin .append,args:= #[x,y],argTypes:= #[t,t]},ty,pos,af,g⟩ ρ w f w'/\Hd O w0 w' S (l.set i (.own r f e zl)):=by
 obtain⟨J,L,rfl⟩:=aRi I;obtain⟨xs,M,R⟩:=H.V hi;obtain⟨X,s1,s2⟩:=G;obtain⟨f,w',hd,h⟩:=Ex_append (P:=P) (ρ:=ρ) (w:=w) (d:=d) (ty:=ty) (pos:=pos) (af:=af) (g:=g) B C D E R s2 (aSt s1) J L;refine⟨f,w',hd,H.turn hi h.only (λY=>?_) (λb A=>⟨(h.blk b (uK.1 A)).imp uK.2 id,(aCe h.own b A).2⟩) (aNg f)⟩;exact⟨xs++X,mW Y (wV M s1),by simpa using h.own⟩
theorem zZ (f:Zero P t cs)(H:Hd O w0 w S l): ∃v w',Do P ⟨d,.alloc t,ty,pos,af,g⟩ ρ w v w'/\ ∃b,v= .pointer (some ⟨b,0,none⟩)/\Hd O w0 w' S (l++[.blk b cs t]):=by
 obtain⟨v,w',h,b,p,A⟩:=Ex_alloc (P:=P) (ρ:=ρ) (w:=w) (d:=d) (ty:=ty) (pos:=pos) (af:=af) (g:=g) f;exact⟨v,w',h,b,p,H.alloc A⟩
theorem yJ (f:ev ρ x= .agg cs.toArray)(H:Hd O w0 w S l): ∃v w',Do P ⟨d,.box t x,ty,pos,af,g⟩ ρ w v w'/\ ∃b,v= .pointer (some ⟨b,0,none⟩)/\Hd O w0 w' S (l++[.blk b cs t]):=by
 obtain⟨v,w',h,b,p,A⟩:=Ex_box (P:=P) (ρ:=ρ) (w:=w) (d:=d) (ty:=ty) (pos:=pos) (af:=af) (g:=g) f;exact⟨v,w',h,b,p,H.alloc A⟩
theorem mP (f:ev ρ x=v)(h:v.cells= #[v])(H:Hd O w0 w S l): ∃u w',Do P ⟨d,.box t x,ty,pos,af,g⟩ ρ w u w'/\ ∃b,u= .pointer (some ⟨b,0,none⟩)/\Hd O w0 w' S (l++[.blk b [v] t]):=by
 obtain⟨v,w',p,b,A,B⟩:=Ex_box1 (P:=P) (ρ:=ρ) (w:=w) (d:=d) (ty:=ty) (pos:=pos) (af:=af) (g:=g) f h;exact⟨v,w',p,b,A,H.alloc B⟩
theorem yS (H:Hd O w0 w S l)(n:Nat)(hi:l[n]? =some (.blk b cs T))(h:Sz P t 1)(p:ev ρ x= .pointer (some ⟨b,i,none⟩))(A:ev ρ y=v)(B:v.oneCell'=true)(f:Nat.blt i cs.length=true):
    ∃w',DoU P ⟨none,.store t x y,ty,pos,af,g⟩ ρ w w'/\Hd O w0 w' S (l.set n (.blk b (cs.set i v) T)):=by
 have f:i<cs.length:=by rw [Nat.blt]at f;exact Nat.lt_of_succ_le (Nat.le_of_ble_eq_true f)
 obtain⟨w',C,D⟩:=Ex_store1 (P:=P) (ρ:=ρ) (ty:=ty) (pos:=pos) (af:=af) (g:=g) h p A B (H.V hi) f;exact⟨w',C,H.wr hi D⟩
def aDq:List Value->Prop
 | []=>True
 |v::l=>v.oneCell'=true/\aDq l
theorem dP: ∀{l:List Value},aDq l-> ∀v∈l,v.oneCell'=true
 | [],_,v,h=>by cases h
 |x::l,h,v,f=>by
  rcases List.mem_cons.1 f with e|e
  ·rw [e];exact h.1
  ·exact dP h.2 v e
theorem yP (h:SlF r F w v xl):v.oneCell'=true:=SlR.one h.choose_spec.2.1
theorem dD (h: ∃xs,rows r F w xs xl/\w.ownsRow 0 e r.sz v xl.length xs):v.oneCell'=true:=SlR.one (aKr h.choose_spec.2)
def aYh (s:Nat):List Value->Prop
 | []=>True
 |v::l=>v.cells.size=s/\aYh s l
theorem aNk {s:Nat}: ∀{l:List Value},aYh s l-> ∀v∈l,v.cells.size=s
 | [],_,v,h=>by cases h
 |x::l,h,v,f=>by
  rcases List.mem_cons.1 f with e|e
  ·rw [e];exact h.1
  ·exact aNk h.2 v e
theorem zT (H:Hd O w0 w S l)(n:Nat)(hi:l[n]? =some (.blk b cs T)){m:Nat}(f:Sz P t m)(hm:vs.length=m)(h:ev ρ x= .pointer (some ⟨b,i,none⟩))(p:ev ρ y= .agg vs.toArray)(A:aDq vs)(B:Nat.ble (i+vs.length) cs.length=true):
    ∃w',DoU P ⟨none,.store t x y,ty,pos,af,g⟩ ρ w w'/\Hd O w0 w' S (l.set n (.blk b (splice cs i vs) T)):=by
 obtain⟨w',C,D⟩:=aRa (P:=P) (ρ:=ρ) (ty:=ty) (pos:=pos) (af:=af) (g:=g) f hm h p (dP A) (H.V hi) (Nat.le_of_ble_eq_true B);exact⟨w',C,H.wr hi D⟩
theorem Lx_bs {len bytes:Nat}{zs:List Value}{parts:Array (Nat×Operand)} (I:P.underlying t=some (.slice e)) (J:El P e r.sz bytes zs) (B:len*r.sz<=16777216) (f:0<len*r.sz) (D:xl.length=len)
    (L:jC r.sz len zs (parts.toList.map λp=>(p.1,ev ρ p.2))=some cs) (H:Hd O w0 w S l) (G:rows r (frees O l) w cs xl):
    ∃v w',Do P ⟨d,.buildSlice t len parts,ty,pos,af,g⟩ ρ w v w'/\Hd O w0 w' S (l++[.own r v e xl]):=by
 obtain⟨v,w',M,b,rfl,C⟩:=Ex_bs (P:=P) (ρ:=ρ) (w:=w) (d:=d) (ty:=ty) (pos:=pos) (af:=af) (g:=g) I J B f L;refine⟨_,w',M,H.add C.only (λR=>⟨cs,mW R G,?_⟩) (λX E=>?_) (aNg _)⟩;have A:=vI G;subst D;exact⟨A,.inr ⟨b,xl.length,cs.toArray,rfl,Nat.zero_le _,C.blk,Nat.le_refl _,(by rw [maxLen_eq];have Y:r.sz≠0:=(by intro h;rw [h]at f;simp at f);have:xl.length<=xl.length*r.sz:=Nat.le_mul_of_pos_right _ (by omega);omega),(by simpa using A),(by rw [List.take_of_length_le];simp [A])⟩⟩;have:X=b:=by simpa [Th.blocks,ob,qG]using E
 subst this;exact⟨Nat.le_of_eq C.at_.symm,by rw [C.size,C.at_];omega⟩
theorem xW (H:Hd O w0 w S l)(r:Rp α)(e:TypeId):Hd O w0 w S (l++[.own r (.slice none 0 0) e []]):=
 H.add (Only.refl [] w) (λ_=>⟨[],rfl,w.ownsRow_nil 0 e r.sz⟩) (by simp [Th.blocks,ob,qG]) (by simp [Th.blocks,ob,qG])
end

section
variable {P:Program}{N:Nat}{ops:Array Oper}{κ:List Kd}{K:Env->World->Prop}{Q:Exit->Env->World->Prop}{k:Nat}{rest:List Oper}{ρ:Env}{w:World}{v:Value}{d:Nat}{op:Op}{ty:TypeId}{pos:String}{af:Array Edge}{g:Option (Nat×Bool)}
theorem qM {R:Value->Prop}(f:fM N ops ρ ⟨some d,op,ty,pos,af,g⟩=true)(hd:Nat.blt d N=true)(h: ∃v,(∀w',Do P ⟨some d,op,ty,pos,af,g⟩ ρ w' v w')/\R v)(n: ∀v,R v->RL P N ops Q rest (upd ρ d v) w):
    RL P N ops Q (⟨some d,op,ty,pos,af,g⟩::rest) ρ w:=by
 obtain⟨v,p,A⟩:=h;exact aF f hd (p w) (n v A)
end

section
variable {P:Program}{ρ:Env}{w w0 w1:World}{d:Option Tmp}{x y z:Operand}{t u ty e:TypeId}{pos:String}{af:Array Edge}{g:Option (Nat×Bool)}
variable {v:Value}{b o i n c s:Nat}{k k':IntKind}{cs xs vs:List Value}{T:TypeId}{O S:List Nat}{l:List Th}{α:Type}{r:Rp α}{xl yl zl:List α}{a:α}{j q:Int}{F:Nat->Prop}

theorem xM {f:FuncId}{args:Array Operand}{h:Array TypeId}{us cap:List Value}(B:Enters P f)(C:ev ρ x= .func (.func f) #[] cap.toArray)(D:args.toList.map (ev ρ)=us):
  DoC P ⟨d,.call {callee:= .value x,args:=args,argTypes:=h},ty,pos,af,g⟩ ρ w f (us++cap).toArray:=by
 obtain⟨fn,E,_,G⟩:=B;have p: ¬fn.body=none:=by cases hb:fn.body<;>simp_all
 have A: ¬fn.name= "runtime.NumGoroutine" :=by simpa using G
 have H: ∀as,(callFunc f as).run P w= .ok (.enter f as) w:=by
  intro as;simp [callFunc,Sem.run,E,p,A,program]
 unfold DoC;have e:args.map (ev ρ)=us.toArray:=by rw [<-D];apply Array.ext';simp
 simp only [execOp,resolve,C,Deferred.ofValue];rw [e];simp [invoke,H]
theorem yZ {f:FuncId}{cap:Array Operand}{us:List Value}(h:cap.toList.map (ev ρ)=us):Do P ⟨d,.makeFunc (.func f) #[] cap,ty,pos,af,g⟩ ρ w (.func (.func f) #[] us.toArray) w:=by
 have e:cap.map (ev ρ)=us.toArray:=by rw [<-h];apply Array.ext';simp
 unfold Do;simp [execOp,Instr.makeFunc,e]
theorem xN {s1 s2:Str}(f:ev ρ x= .string (bs s1))(h:ev ρ y= .string (bs s2)):Do P ⟨d,.binOp .eql t x y u,ty,pos,af,g⟩ ρ w (.bool (decide (s1=s2))) w:=
 OB.yI (Do_eqlstr f h) (congrArg Value.bool (decide_eq_decide.2 bs_inj))
theorem aId {s1 s2:Str}(f:ev ρ x= .string (bs s1))(h:ev ρ y= .string (bs s2)):Do P ⟨d,.binOp .neq t x y u,ty,pos,af,g⟩ ρ w (.bool (decide (s1≠s2))) w:=
 OB.yI (Do_neqstr f h) (congrArg Value.bool (decide_eq_decide.2 (not_congr bs_inj)))
theorem aB {s1:Str}(f:P.underlying t=some .string)(h:ev ρ x= .string (bs s1)):
  Do P ⟨d,.call {callee:= .builtin .len,args:= #[x],argTypes:= #[t]},ty,pos,af,g⟩ ρ w (.int .i64 (s1.length:Nat)) w:=
 OB.yI (Do_lens f h) (by rw [qW])
def byte' (s:Str)(i:Int):Option Int:=(at' s i).map λc=>(c.toNat:Int)
theorem pW {s1:Str}{c:Int}(p:P.underlying t=some .string)(A:ev ρ x= .string (bs s1))(B:ev ρ y= .int k q)(h:byte' s1 q=some c):Do P ⟨d,.index t x y,ty,pos,af,g⟩ ρ w (.int .u8 c) w:=by
 unfold byte' at h
 cases ha:at' s1 q with
 |none=>rw [ha]at h;cases h
 |some f=>
  rw [ha]at h;obtain rfl:(f.toNat:Int)=c:=by simpa using h
  obtain⟨C,_,D⟩:=zY ha;have e:(bs s1)[q.toNat]? =some f:=by
   obtain⟨E,G⟩:=gS.1 D;have H:q.toNat<(bs s1).size:=by rw [qW];exact E
   rw [getElem?_pos (bs s1) q.toNat H];simp [bs,ByteArray.getElem_eq_getElem_data,G]
  unfold Do;simp [execOp,Instr.index,A,B,asIntOf,run_underlying p,C,e]
def PtF (r:Rp α)(F:Nat->Prop)(w:World)(f:Option Addr):Option α->Prop
 |none=>f=none
 |some x=> ∃b o cs,f=some ⟨b,o,none⟩/\F b/\b<w.heap.size/\r.rd F w cs x/\Cells w ⟨b,o,none⟩ cs
theorem PtF.mono {F F':Nat->Prop}{w w':World}{f:Option Addr}{o:Option α}(p:Same F F' w w')(h:PtF r F w f o):PtF r F' w' f o:=by
 cases o with
 |none=>exact h
 |some x=>
  obtain⟨b,o,cs,A,B,C,D,E⟩:=h;obtain⟨G,H,I⟩:=Cells.same p B C E;exact⟨b,o,cs,A,G,H,r.mono p D,I⟩
def Fz.pt (r:Rp α)(f:Option Addr)(o:Option α):Fz:=⟨λF w=>PtF r F w f o,PtF.mono⟩
theorem aKp (h:SlF r F w v xl) {lo hi:Int} (M:sub' xl lo hi=some yl): ∃a c,v= .slice a xl.length c/\0<=lo/\lo<=hi/\hi<=xl.length/\xl.length<=c/\SlF r F w (sliced a lo.toNat hi.toNat c r.sz) yl:=by
 obtain⟨R,X,H,rfl⟩:=aEi M;obtain⟨xs,I,C,Y⟩:=h;obtain⟨_,C⟩:=C;rcases C with ⟨rfl,D⟩|⟨a,cap,rfl,h3,_,h5,hc⟩
 ·have:xl=[]:=List.eq_nil_of_length_eq_zero D;subst this;simp at H;obtain rfl:hi=0:=by omega
  obtain rfl:lo=0:=by omega
  exact⟨none,0,rfl,by omega,by omega,by simp,by simp,SlF.nil⟩
 ·refine⟨some a,cap,rfl,R,X,H,h3,(xs.drop (lo.toNat*r.sz)).take ((hi-lo).toNat*r.sz),aCq _ (wR _ I),⟨?_,?_⟩,?_⟩
  ·exact vI (aCq _ (wR _ I))
  ·unfold sliced;have B:((xl.drop lo.toNat).take (hi-lo).toNat).length=hi.toNat-lo.toNat:=by simp;omega
   rw [B];refine .inr ?_
   by_cases J:cap=lo.toNat
   ·rw [if_pos J];refine⟨a,cap-lo.toNat,rfl,by omega,by omega,λh=>by omega,?_⟩;have:(hi-lo).toNat=0:=by omega
    rw [this];intro i v f;simp at f
   ·rw [if_neg J];refine⟨a.add (lo.toNat*r.sz),cap-lo.toNat,rfl,by omega,by omega,λh=>?_,?_⟩
    ·have:=h5 (by omega);unfold Addr.add;split
     ·exact this
     ·rfl
    ·intro i v f;have e:(a.add (lo.toNat*r.sz)).add i=a.add (lo.toNat*r.sz+i):=by
      unfold Addr.add
      by_cases E:lo.toNat*r.sz=0
      ·rw [if_pos E,E,Nat.zero_add]
      ·rw [if_neg E]
       by_cases L:i=0
       ·subst L;rw [if_pos rfl,if_neg (by omega)];rfl
       ·rw [if_neg L,if_neg (by omega)];simp [Nat.add_assoc]
     rw [e];refine hc _ _ ?_;rw [List.getElem?_take]at f;split at f
     ·rwa [List.getElem?_drop]at f
     ·cases f
  ·intro D b p;have G:0<xl.length:=by simp at D;omega
   have:b=a.block:=by
    unfold sliced at p;simp only [qG]at p;split at p
    ·rename_i a2 _ c2 A;simp at A;obtain⟨A,_⟩:=A;split at A
     ·cases A;simpa using p.symm
     ·cases A;simpa [Addr.add_block]using p.symm
    ·cases p
   exact Y G b (by rw [this];rfl)
theorem aRz {kl kh:IntKind}{lo hi:Int}{f p:Operand}(B:P.underlying t=some (.slice e))(C:Sz P e r.sz)(h:SlF r F w v xl)(D:ev ρ x=v)(E:ev ρ f= .int kl lo)(hh:ev ρ p= .int kh hi)(G:sub' xl lo hi=some yl):
    ∃A,(∀w',Do P ⟨d,.slice t x (some f) (some p) none,ty,pos,af,g⟩ ρ w' A w')/\SlF r F w A yl:=by
 obtain⟨a,c,e,H,I,_,_,J⟩:=aKp h G;exact⟨_,λw'=>aSk B C (D.trans e) E hh H I (by omega),J⟩
theorem jA {kh:IntKind}{hi:Int}{f:Operand}(A:P.underlying t=some (.slice e))(B:Sz P e r.sz)(h:SlF r F w v xl)(C:ev ρ x=v)(hh:ev ρ f= .int kh hi)(D:sub' xl 0 hi=some yl):
    ∃p,(∀w',Do P ⟨d,.slice t x none (some f) none,ty,pos,af,g⟩ ρ w' p w')/\SlF r F w p yl:=by
 obtain⟨a,c,e,_,E,_,_,G⟩:=aKp h D;exact⟨_,λw'=>aTg A B (C.trans e) hh E (by omega),G⟩
theorem aJh {kl:IntKind}{lo:Int}{f:Operand}(A:P.underlying t=some (.slice e))(B:Sz P e r.sz)(h:SlF r F w v xl)(C:ev ρ x=v)(D:ev ρ f= .int kl lo)(E:sub' xl lo (xl.length:Int)=some yl):
    ∃p,(∀w',Do P ⟨d,.slice t x (some f) none none,ty,pos,af,g⟩ ρ w' p w')/\SlF r F w p yl:=by
 obtain⟨a,c,e,G,_,_,_,H⟩:=aKp h E;refine⟨_,λw'=>aUk A B (C.trans e) D G (by omega),?_⟩;simpa using H
theorem Do_max {c:Int}(f:ev ρ x= .int k j)(p:ev ρ y= .int k q)(h:max j q=c):Do P ⟨d,.call {callee:= .builtin .max,args:= #[x,y],argTypes:= #[t,u]},ty,pos,af,g⟩ ρ w (.int k c) w:=by
 subst h;have e:max j q=if j<q then q else j:=by split<;>omega
 unfold Do;simp [execOp,resolve,invoke,builtin,Builtin.max_,Builtin.max2,f,p,e]
theorem Do_min {c:Int}(f:ev ρ x= .int k j)(p:ev ρ y= .int k q)(h:min j q=c):Do P ⟨d,.call {callee:= .builtin .min,args:= #[x,y],argTypes:= #[t,u]},ty,pos,af,g⟩ ρ w (.int k c) w:=by
 subst h;have e:min j q=if q<j then q else j:=by split<;>omega
 unfold Do;simp [execOp,resolve,invoke,builtin,Builtin.min_,Builtin.min2,f,p,e]
theorem nN {c:Int}(f:ev ρ x= .int k j)(p:ev ρ y= .int k q)(h:uJ k j q=some c):Do P ⟨d,.binOp .quo t x y u,ty,pos,af,g⟩ ρ w (.int k c) w:=by
 obtain⟨A,B⟩:=quo_some h;exact Do_tquo f p A B
theorem kK {c:Int}(f:ev ρ x= .int k j)(p:ev ρ y= .int k q)(h:kX j q=some c):Do P ⟨d,.binOp .rem t x y u,ty,pos,af,g⟩ ρ w (.int k c) w:=by
 obtain⟨A,B⟩:=rem_some h;exact OB.yI (Do_trem f p A) (by rw [B])
theorem kN {c:Int}(f:ev ρ x= .int k j)(p:ev ρ y= .int k' q)(h:jI k j q=some c):Do P ⟨d,.binOp .shl t x y u,ty,pos,af,g⟩ ρ w (.int k c) w:=by
 obtain⟨A,B,C⟩:=shl_some h;exact Do_shl f p A B rfl C
theorem mQ {c:Int}(f:ev ρ x= .int k j)(p:ev ρ y= .int k' q)(h:qH k j q=some c):Do P ⟨d,.binOp .shr t x y u,ty,pos,af,g⟩ ρ w (.int k c) w:=by
 obtain⟨A,B,C⟩:=shr_some h;exact OB.yI (Do_shr f p A B rfl) (by rw [C])
theorem xH {f:FuncId}{args:Array Value}{w:World}{O:List Nat}{p:List Th}(h:Calls P f args w λe w'=>e= .returned v/\Hd O w w' [] p):Calls P f args w λe w'=>e= .returned v/\Below w.heap.size w w':=
 h.mono λ_ _ ⟨A,B⟩=>⟨A,B.only.below⟩
end

section
variable {P:Program}{ρ:Env}{w w0 w1:World}{d:Option Tmp}{x y z:Operand}{t u ty e:TypeId}{pos:String}{af:Array Edge}{g:Option (Nat×Bool)}
variable {v:Value}{b o i n c s m:Nat}{k k':IntKind}{cs xs vs:List Value}{T:TypeId}{O S:List Nat}{l:List Th}{α β:Type}{r:Rp α}{xl yl zl:List α}{a:α}{j q:Int}{F:Nat->Prop}

def aLf (P:Program)(t:TypeId)(i:Nat):Option (Nat×Option Nat):=
 match P.underlying t with
 |some (.struct h)=>(h[i]?).map λf=>(f.offset,(P.info? f.type).map (·.size))
 |_=>none
theorem aMf (h:aLf P t i=some (m,some n)) (A:n≠0) (B:ev ρ x= .pointer (some ⟨b,o,none⟩)):Do P ⟨d,.fieldAddr t x i,ty,pos,af,g⟩ ρ w (.pointer (some ⟨b,o+m,none⟩)) w:=by
 unfold aLf at h;split at h;rename_i _ C;rw [Option.map_eq_some_iff]at h;obtain⟨f,D,p⟩:=h;have E:f.offset=m:=congrArg Prod.fst p;have G:(P.info? f.type).map (·.size)=some n:=congrArg Prod.snd p;exact aOn C D G A B (by rw [E]);cases h
def allp (F:Nat->Prop)(w:World):List Fz->Prop
 | []=>True
 |p::l=>p.p F w/\allp F w l
theorem aSl (O:List Nat)(l:List Th)(p:Fz):frees O (l++[.fz p])=frees O l:=by
 funext b;unfold frees;rw [tC];simp [bks,Th.blocks]
theorem Hd.fzs: ∀{l:List Th} (f:List Fz),Hd O w0 w S l->allp (frees O l) w f->Hd O w0 w S (l++f.map Th.fz)
 |l,[],H,_=>by simpa using H
 |l,p::f,H,h=>by
  have A:=H.fz p h.1;have B:=Hd.fzs (l:=l++[.fz p]) f A (by rw [aSl];exact h.2);simpa using B
theorem aC {f:Option Addr}{op:Option α}(h:PtF r F w f op)(e:op=some a): ∃b o cs,f=some ⟨b,o,none⟩/\F b/\b<w.heap.size/\r.rd F w cs a/\Cells w ⟨b,o,none⟩ cs:=by subst e;exact h
theorem aDs {cs vs:List Value}{i k:Nat} (h:i+vs.length<=cs.length):(splice cs i vs)[k]? =if k<i then cs[k]? else if k<i+vs.length then vs[k-i]? else cs[k]? :=by
 unfold splice;have f:(cs.take i).length=i:=by simp;omega
 by_cases p:k<i;rw [if_pos p,List.append_assoc,List.getElem?_append_left (by rw [f];exact p),List.getElem?_take,if_pos p];rw [if_neg p];by_cases c2:k<i+vs.length;rw [if_pos c2,List.append_assoc,List.getElem?_append_right (by rw [f];omega),f,List.getElem?_append_left (by omega)];rw [if_neg c2,List.getElem?_append_right (by simp [f];omega),List.getElem?_drop];congr 1;simp [f];omega
theorem fun_only {α:Type}{r:Rp α}{w w':World}{v:Value}{b n c:Nat}{e:TypeId}{xl:List α}{cs:List Value}{T:TypeId}(f:v= .slice (some ⟨b,0,none⟩) n c)(h:Wr w w' b cs T):Only (Th.own r v e xl).blocks w w':=by
 subst f;simpa [Th.blocks,ob,qG]using h.only
theorem bQ {off cap:Nat}{a':α}{X:Nat}{u':Value} (H:Hd O w0 w S l) (n:Nat) (hi:l[n]? =some (.own r v e xl)) (E:v= .slice (some ⟨b,0,none⟩) xl.length cap) (hc:Cells w ⟨b,0+j.toNat*r.sz,none⟩ cs) (hx:ev ρ x= .pointer (some ⟨b,0+j.toNat*r.sz+off,none⟩))
  (Y:Sz P t X) (hm:vs.length=X) (hy:ev ρ y=u') (aa:u'.cells=vs.toArray) (h1: ∀v∈vs,v.oneCell'=true) (G:set' xl j a'=some yl) (aj:off+X<=r.sz) (av:cs.length=r.sz) (ab:r.rd (frees O l) w (splice cs off vs) a'):
  ∃w',DoU P ⟨none,.store t x y,ty,pos,af,g⟩ ρ w w'/\Hd O w0 w' S (l.set n (.own r v e yl)):=by
 obtain⟨_,_,rfl⟩:=set_some G;rw [Nat.zero_add]at hc;obtain⟨xs,r1,r2⟩:=H.V hi;have I:=vI r1;have ax:j.toNat*r.sz+r.sz<=xs.length:=by
  rw [I,<-Nat.succ_mul];exact Nat.mul_le_mul_right _ (by omega)
 rcases r2.2 with ⟨J,_⟩|⟨g,_,f,L,_,hg,ac,ad,ae,h⟩
 ·rw [E]at J;cases J
 ·rw [E]at L
  cases L
  have hb:Blk w b f.toList e:=by unfold Blk;simpa using hg
  have an:xs.length<=f.toList.length:=by rw [<-h];simp;omega
  obtain⟨w',hd,hW⟩:=vF (P:=P) (ρ:=ρ) (w:=w) (ty:=ty) (pos:=pos) (af:=af) (g:=_) Y hm hx (by rw [hy,aa]) h1 hb (by omega);have C: ∀k,k<r.sz->cs[k]? =xs[j.toNat*r.sz+k]? :=by
   intro k _;have M:k<cs.length:=by omega
   have h2:=hc k cs[k] (gE M);rw [Addr.add_none,cell_of_row w b _ f e (0,0) hg]at h2;rw [gE M,<-h,List.getElem?_take,if_pos (by omega)];simpa using h2.symm
  refine⟨w',hd,H.turn hi (fun_only E hW) (λY=>⟨splice xs (j.toNat*r.sz) (splice cs off vs),mW Y (aRx r1 (by omega) ab),?_⟩) (λc D=>?_) (aNg v)⟩
  ·have R:(splice xs (j.toNat*r.sz) (splice cs off vs)).length=xs.length:=nH (by rw [nH (by omega)];omega);refine⟨by rw [R,I];simp,.inr ⟨b,cap,(splice f.toList (0+j.toNat*r.sz+off) vs).toArray,by rw [E];simp,Nat.zero_le _,hW.blk,by simpa using ac,ad,?_,?_⟩⟩
   ·have:=nH (cs:=f.toList) (vs:=vs) (i:=0+j.toNat*r.sz+off) (by omega);simp only [List.size_toArray];rw [this];simpa using ae
   ·apply List.ext_getElem?;intro k;rw [List.getElem?_take];simp only [List.length_set];have A:=aDs (cs:=xs) (vs:=splice cs off vs) (i:=j.toNat*r.sz) (k:=k) (by rw [nH (by omega)];omega);have B:=aDs (cs:=f.toList) (vs:=vs) (i:=0+j.toNat*r.sz+off) (k:=k) (by omega);rw [nH (by omega)]at A;rw [A,B];have p: ∀k,xs[k]? =if k<xl.length*r.sz then f.toList[k]? else none:=by
     intro k;rw [<-h,List.getElem?_take]
    by_cases c0:k<xl.length*r.sz
    ·rw [if_pos c0]
     by_cases c1:k<j.toNat*r.sz
     ·rw [if_pos (by omega),if_pos c1,p,if_pos c0]
     ·rw [if_neg c1]
      by_cases c2:k<j.toNat*r.sz+cs.length
      ·rw [if_pos c2,aDs (by omega)]
       by_cases c3:k-j.toNat*r.sz<off
       ·rw [if_pos (by omega),if_pos c3,C _ (by omega),p,if_pos (by omega)]
        congr 1;omega
       ·rw [if_neg (by omega),if_neg c3]
        by_cases c4:k-j.toNat*r.sz<off+vs.length
        ·rw [if_pos (by omega),if_pos c4];congr 1;omega
        ·rw [if_neg (by omega),if_neg c4,C _ (by omega),p,if_pos (by omega)]
         congr 1;omega
      ·rw [if_neg c2,if_neg (by omega),if_neg (by omega),p,if_pos c0]
    ·rw [if_neg c0,if_neg (by omega),if_neg (by omega),p,if_neg c0]
  ·refine⟨.inl D,?_⟩;have:c=b:=by rw [E]at D;simpa [Th.blocks,ob,qG]using D
   subst this;exact hW.blk.lt
end
theorem aY {ρ:Env}{s len:Nat}{zs vs cs:List Value}{parts:List (Nat×Operand)} (D:0<s) (hi:parts.map Prod.fst=List.range len) (B:parts.map (λp=>ev ρ p.2)=vs) (E:aYh s vs) (G:vs.flatMap (λv=>v.cells.toList)=cs):
  jC s len zs (parts.map λp=>(p.1,ev ρ p.2))=some cs:=by
 have H:vs.length=len:=by rw [<-B,List.length_map];have:=congrArg List.length hi;simpa using this
 have e:(parts.map λp=>(p.1,ev ρ p.2))=(vs.zipIdx 0).map λx=>(x.2,x.1):=by
  apply List.ext_getElem?;intro i
  by_cases h:i<len
  ·have A:i<parts.length:=by have:=congrArg List.length hi;simp at this;omega
   have f:(parts.map Prod.fst)[i]? =(List.range len)[i]? :=by rw [hi]
   have C:(parts.map λp=>ev ρ p.2)[i]? =vs[i]? :=by rw [B]
   simp only [List.getElem?_map,gE A,Option.map_some]at f C⊢;rw [List.getElem?_range h]at f;rw [List.getElem?_zipIdx,<-C];simp at f;simp [f]
  ·have A:parts.length<=i:=by have:=congrArg List.length hi;simp at this;omega
   rw [List.getElem?_eq_none (by simpa using A),List.getElem?_eq_none (by simp;omega)]
 rw [e,<-G];exact aRd D (aNk E) H
section
variable {P:Program}{ρ:Env}{w w0 w1:World}{d:Option Tmp}{x y z:Operand}{t u ty e ts:TypeId}{pos:String}{af:Array Edge}{g:Option (Nat×Bool)}
variable {v:Value}{b o i n c:Nat}{cs xs vs:List Value}{T:TypeId}{O S:List Nat}{l:List Th}{xl yl zl:List Int}{F:Nat->Prop}
def nums (s:Str):List Int:=s.map λb=>(b.toNat:Int)
def str' (l:List Int):Str:=l.map λz=>UInt8.ofNat z.toNat
def Z8 (P:Program)(e:TypeId):Prop:=(P.info? e).map (λi=>(i.zero,i.size,i.bytes))=some (some (.int .u8 0),1,1)
theorem Z8.get (h:Z8 P e): ∃i,P.info? e=some i/\i.zero=some (.int .u8 0)/\i.size=1/\i.bytes=1:=by
 unfold Z8 at h
 cases hi:P.info? e with
 |none=>rw [hi]at h;cases h
 |some i=>
  rw [hi]at h;have:=oI h;simp only [Prod.mk.injEq]at this;exact⟨i,rfl,this.1,this.2.1,this.2.2⟩
theorem nums_cells (s:Str):Lib.strCells (bs s)=ints .u8 (nums s):=by simp [Lib.strCells,bs,ints,nums]
theorem aEl (s:Str):(nums s).length=s.length:=by simp [nums]
theorem Ex_appstr {s:ByteArray} (L:P.underlying t=some (.slice e)) (M:P.underlying ts=some .string) (he:Z8 P e) (hx:ev ρ x=v) (hy:ev ρ y= .string s) (f:w.ownsRow 0 e 1 v n xs)
  (E:n+s.size<=maxLen) (I:n+s.size<=140737488355328):
  ∃D w',Do P ⟨d,.call {callee:= .builtin .append,args:= #[x,y],argTypes:= #[t,ts]},ty,pos,af,g⟩ ρ w D w'/\Ap w w' v D e 1 (n+s.size) (xs++Lib.strCells s):=by
 obtain⟨i,R,i2,i3,i4⟩:=he.get;have hd: ∀D w',(Builtin.append_ #[t,ts] ty #[v,.string s]).run P w= .ok D w'->Do P ⟨d,.call {callee:= .builtin .append,args:= #[x,y],argTypes:= #[t,ts]},ty,pos,af,g⟩ ρ w D w':=by
  intro D w' h;unfold Do;simp [execOp,resolve,invoke,builtin,hx,hy,h]
 obtain⟨D,w',p,ho,J,_⟩:=Lib.run_append_own_string (P:=P) w 0 t ts ty e i L M R i2 i3 i4 v n xs f s E I (Nat.zero_le _);refine⟨D,w',hd _ _ p,ho,⟨J.os,J.tape,J.output,J.size,λk hk hn=>J.block k hk (λe=>hn (by rw [uK,<-aBn,e]))⟩,?_⟩;intro b' G;rcases f.2 with ⟨rfl,rfl⟩|⟨g,A,X,rfl,_,Y,_,_,_,_⟩
 ·obtain⟨v2,_,B,ab,_⟩:=Lib.run_append_own_string (P:=P) w w.heap.size t ts ty e i L M R i2 i3 i4 (.slice none 0 0) 0 xs ⟨f.1,.inl ⟨rfl,rfl⟩⟩ s E I (Nat.le_refl _);rw [p]at B
  cases B
  exact .inr (aCe ab b' (uK.2 G)).1
 ·by_cases H:n+s.size<=A
  ·have C:=Lib.run_append_room_string (P:=P) w t ts ty e i L M R i3 g n A X Y s H (by omega);rw [p]at C
   cases C
   exact .inl G
  ·have holds: ∀j u,xs[j]? =some u->w.cell? ((⟨g,0,none⟩:Addr).add j)=some u:=f.cells (g:=g) rfl;have C:=Lib.run_append_grow_string (P:=P) w t ts ty e i (.int .u8 0) L M R i2 ⟨g,0,none⟩ n A xs (by rw [i3];exact f.1) holds s (by omega) (by unfold maxLen at E;omega) (by rw [i4];exact growslice_fits (by omega) (by omega));rw [p]at C
   cases C
   refine .inr ?_;have:b'=w.heap.size:=by simpa [qG,eq_comm]using G
   omega
theorem Lx_appstr {s:Str}(H:Hd O w0 w S l)(hi:l[i]? =some (.own (Rp.int .u8) v e xl))(C:P.underlying t=some (.slice e))(p:P.underlying ts=some .string)(D:Z8 P e)(E:ev ρ x=v)(G:ev ρ y= .string (bs s))
    (I:app' 1 xl (nums s)=some zl):
    ∃f w',Do P ⟨d,.call {callee:= .builtin .append,args:= #[x,y],argTypes:= #[t,ts]},ty,pos,af,g⟩ ρ w f w'/\Hd O w0 w' S (l.set i (.own (Rp.int .u8) f e zl)):=by
 obtain⟨A,J,rfl⟩:=aRi I;obtain⟨xs,L,M⟩:=H.V hi;rw [aEl]at A J;obtain⟨f,w',hd,h⟩:=Ex_appstr (P:=P) (ρ:=ρ) (w:=w) (d:=d) (ty:=ty) (pos:=pos) (af:=af) (g:=g) C p D E G M (by rw [qW];exact A) (by rw [qW];omega);refine⟨f,w',hd,H.turn hi h.only (λp=>?_) (λb B=>⟨(h.blk b (uK.1 B)).imp uK.2 id,(aCe h.own b B).2⟩) (aNg f)⟩;refine⟨xs++ints .u8 (nums s),mW p (wV L (aAi.2 rfl)),?_⟩;have q:=h.own;rw [nums_cells]at q;rw [List.length_append,aEl,<-qW (s:=s)];exact q
theorem aTs (h:P.underlying t=some (.slice e)) (p:P.underlying e=some (.int .u8)) (hd:P.underlying u=some .string) (E:ev ρ x=v) (A:Sr (Rp.int .u8) F w v xl):
  Do P ⟨d,.convert t u x,ty,pos,af,g⟩ ρ w (.string (bs (str' xl))) w:=by
 obtain⟨xs,B,_,A⟩:=A;have B:=aAi.1 B;subst B;have G:strOfNums xl=bs (str' xl):=by simp [strOfNums,bs,str']
 have:(convert t u v).run P w= .ok (.string (bs (str' xl))) w:=by
  rw [<-G];rcases A with ⟨rfl,f⟩|⟨⟨b,o,D⟩,cap,rfl,_,_,C,H⟩
  ·have:xl=[]:=List.eq_nil_of_length_eq_zero f;subst this;exact run_convert_bytes_nil w t e h p 0 0 u hd
  ·rcases Nat.eq_zero_or_pos xl.length with f|f
   ·have:xl=[]:=List.eq_nil_of_length_eq_zero f;subst this;exact aLc w t e h p (some ⟨b,o,D⟩) cap u hd
   have C:D=none:=C f;subst C;exact run_convert_bytes_arg w t e h p b o xl.length cap xl rfl (λi hi=>by
    have:=H.get (i:=i) (v:= .int .u8 (xl.getD i 0)) (by simp [ints,List.getD,hi]);exact this) u hd
 unfold Do;simp [execOp,E,this]
end
end Go.Lf
