/- Walks: what each function computes, for every argument; no condition but those that stand in the statements. -/
import Derived.Test.YthllgjnlmjpinaaGreatDoorObB
import Derived.Lib.AppendStr
namespace Go.Lf
open Go.RowKit Go.OB

section plain
variable {α β γ:Type}
def gK (a:α)(k:α→Option β):Option β:=k a
def gG (a:Option α)(k:α→Option β):Option β:=
  match a with
  | some x=>k x
  | none=>none
def gU (b:Bool)(x y:Option β):Option β:=
  match b with
  | true=>x
  | false=>y
def dW (k:γ→Option β)(m:(γ→Option β)→Option β):Option β:=m k
def fK (body:(γ→Option β)→γ→Option β):Nat→γ→Option β
  | 0,_=>none
  | n+1,g=>body (fK body n) g
@[irreducible] def FU:Nat:=18446744073709551616
def fV (body:(γ→Option β)→γ→Option β) (g:γ):Option β:=fK body FU g
theorem zT {a:α}{k:α→Option β}{r:β}(h:gK a k=some r): ∃t,a=t∧k t=some r:=⟨a,rfl,h⟩
theorem zC {a:Option α}{k:α→Option β}{r:β}(h:gG a k=some r): ∃t,a=some t∧k t=some r:=by
  cases a with
  | none=>cases h
  | some x=>exact ⟨x,rfl,h⟩
theorem aDx {b:Bool}{x y:Option β}{r:β}(c:b=true)(h:gU b x y=some r):x=some r:=by subst c; exact h
theorem aEi {b:Bool}{x y:Option β}{r:β}(c:b=false)(h:gU b x y=some r):y=some r:=by subst c; exact h
theorem xK {k:γ→Option β}{m:(γ→Option β)→Option β}{r:β}(h:dW k m=some r): ∃K,K=k∧m K=some r:=⟨k,rfl,h⟩
theorem yG {body:(γ→Option β)→γ→Option β}{g:γ}{r:β}(h:fV body g=some r): ∃B n,B=body∧fK B n g=some r:=⟨body,FU,rfl,h⟩
theorem loopN_pos {B:(γ→Option β)→γ→Option β}{n:Nat}{g:γ}{r:β}(h:fK B n g=some r): ∃m,n=m+1∧B (fK B m) g=some r:=by
  cases n with
  | zero=>cases h
  | succ m=>exact ⟨m,rfl,h⟩
def at' (l:List α)(i:Int):Option α:=if 0≤i then l[i.toNat]? else none
def set' (l:List α)(i:Int)(x:α):Option (List α):=if 0≤i∧i<l.length then some (l.set i.toNat x) else none
def sub' (l:List α)(i j:Int):Option (List α):=if 0≤i∧i≤j∧j≤l.length then some ((l.drop i.toNat).take (j - i).toNat) else none
def app' (by_:Nat)(l m:List α):Option (List α):=if l.length+m.length≤maxLen∧(l.length+m.length) * by_≤140737488355328 then some (l++m) else none
def make' (by_:Nat)(n:Int)(z:α):Option (List α):=if 0≤n∧by_ * n.toNat≤140737488355328∧n≤9223372036854775807 then some (List.replicate n.toNat z) else none
def aAe (k:IntKind)(a b:Int):Option Int:=if b=0 then none else some (k.wrap (a.tdiv b))
def mW (a b:Int):Option Int:=if b=0 then none else some (a.tmod b)
def shl' (k:IntKind)(a b:Int):Option Int:=if 0≤b∧b≤k.bits then some (k.wrap (a * 2 ^ b.toNat)) else none
def rY (k:IntKind)(a b:Int):Option Int:=if 0≤b∧b≤k.bits then some (a / 2 ^ b.toNat) else none
theorem zL {l : List α} {i : Int} {x : α} (h : at' l i = some x) : 0 ≤ i ∧ i < l.length ∧ l[i.toNat]? = some x := by
 unfold at' at h;split at h;have := (List.getElem?_eq_some_iff.1 h).1;exact ⟨by assumption, by omega, h⟩;cases h
theorem aOx {l m:List α}{i:Int}{x:α}(h:set' l i x=some m):0≤i∧i<l.length∧m=l.set i.toNat x:=by
 unfold set' at h;split at h;rename_i c; cases h; exact ⟨c.1,c.2,rfl⟩;cases h
theorem aPg {l m:List α}{i j:Int}(h:sub' l i j=some m):0≤i∧i≤j∧j≤l.length∧m=(l.drop i.toNat).take (j - i).toNat:=by
 unfold sub' at h;split at h;rename_i c; cases h; exact ⟨c.1,c.2.1,c.2.2,rfl⟩;cases h
theorem aCq {by_:Nat}{l m r:List α}(h:app' by_ l m=some r):l.length+m.length≤maxLen∧(l.length+m.length) * by_≤140737488355328∧r=l++m:=by
 unfold app' at h;split at h;rename_i c; cases h; exact ⟨c.1,c.2,rfl⟩;cases h
theorem aJm {by_:Nat}{n:Int}{z:α}{r:List α}(h:make' by_ n z=some r):0≤n∧by_ * n.toNat≤140737488355328∧n≤9223372036854775807∧r=List.replicate n.toNat z:=by
 unfold make' at h;split at h;rename_i c; cases h; exact ⟨c.1,c.2.1,c.2.2,rfl⟩;cases h
theorem quo_some {k:IntKind}{a b c:Int}(h:aAe k a b=some c):b≠0∧k.wrap (a.tdiv b)=c:=by
 unfold aAe at h;split at h;cases h;cases h; exact ⟨by assumption,rfl⟩
theorem rem_some {a b c:Int}(h:mW a b=some c):b≠0∧a.tmod b=c:=by
 unfold mW at h;split at h;cases h;cases h; exact ⟨by assumption,rfl⟩
theorem shl_some {k:IntKind}{a b c:Int}(h:shl' k a b=some c):0≤b∧b≤k.bits∧k.wrap (a * 2 ^ b.toNat)=c:=by
 unfold shl' at h;split at h;rename_i q; cases h; exact ⟨q.1,q.2,rfl⟩;cases h
theorem shr_some {k:IntKind}{a b c:Int}(h:rY k a b=some c):0≤b∧b≤k.bits∧a / 2 ^ b.toNat=c:=by
 unfold rY at h;split at h;rename_i q; cases h; exact ⟨q.1,q.2,rfl⟩;cases h
end plain
abbrev Str:=List UInt8
def bs (s:Str):ByteArray:=⟨s.toArray⟩
theorem aBw (s:Str):(bs s).size=s.length:=by simp [bs,ByteArray.size]
theorem bs_inj {s t : Str} : bs s = bs t ↔ s = t := by
 constructor;intro h;have := congrArg (fun b : ByteArray => b.data.toList) h;simpa [bs] using this;intro h; rw [h]

def Same (F F':Nat→Prop)(w w':World):Prop:= ∀b,F b→b<w.heap.size→F' b∧w'.heap[b]? =w.heap[b]?
structure Rp (α:Type) where
  sz:Nat
  rd:(Nat→Prop)→World→List Value→α→Prop
  len: ∀{F w cs x},rd F w cs x→cs.length=sz
  one: ∀{F w cs x},rd F w cs x→ ∀v ∈ cs,v.oneCell'=true
  mono: ∀{F F' w w' cs x},Same F F' w w'→rd F w cs x→rd F' w' cs x
section rp
variable {α β:Type} {F F':Nat→Prop} {w w':World}
def Rp.int (k:IntKind):Rp Int:=⟨1,fun _ _ cs x=>cs= [.int k x],fun h=>by subst h; rfl,fun h=>by subst h; simp [Value.oneCell'],fun _ h=>h⟩
def Rp.bool:Rp Bool:=⟨1,fun _ _ cs x=>cs= [.bool x],fun h=>by subst h; rfl,fun h=>by subst h; simp [Value.oneCell'],fun _ h=>h⟩
def Rp.str:Rp Str:=⟨1,fun _ _ cs x=>cs= [.string (bs x)],fun h=>by subst h; rfl,fun h=>by subst h; simp [Value.oneCell'],fun _ h=>h⟩
def Rp.pair (a:Rp α)(b:Rp β):Rp (α×β):=
  ⟨a.sz+b.sz,fun F w cs x=> ∃c d,cs=c++d∧a.rd F w c x.1∧b.rd F w d x.2,
   fun ⟨c,d,e,h1,h2⟩=>by subst e; simp [a.len h1,b.len h2],
   fun ⟨c,d,e,h1,h2⟩=>by subst e; intro v hv; exact (List.mem_append.1 hv).elim (a.one h1 v) (b.one h2 v),
   fun hs ⟨c,d,e,h1,h2⟩=>⟨c,d,e,a.mono hs h1,b.mono hs h2⟩⟩
def Rp.iso (a:Rp α)(f:β→α):Rp β:=⟨a.sz,fun F w cs x=>a.rd F w cs (f x),fun h=>a.len h,fun h=>a.one h,fun hs h=>a.mono hs h⟩
def rows (r:Rp α)(F:Nat→Prop)(w:World):List Value→List α→Prop
  | cs,[]=>cs= []
  | cs,x :: l=> ∃c d,cs=c++d∧r.rd F w c x∧rows r F w d l
theorem aI {r:Rp α}: ∀{l:List α} {cs:List Value},rows r F w cs l→cs.length=l.length * r.sz
  | [],cs,h=>by unfold rows at h; subst h; simp
  | x :: l,cs,h=>by
    obtain ⟨c,d,rfl,h1,h2⟩:=h
    have:=aI h2
    simp [r.len h1,this,Nat.add_mul]; omega
theorem aCb {r:Rp α}: ∀{l:List α} {cs:List Value},rows r F w cs l→ ∀v ∈ cs,v.oneCell'=true
  | [],cs,h=>by unfold rows at h; subst h; simp
  | x :: l,cs,h=>by
    obtain ⟨c,d,rfl,h1,h2⟩:=h
    intro v hv
    rcases List.mem_append.1 hv with h | h
    · exact r.one h1 v h
    · exact aCb h2 v h
theorem cO {r:Rp α}(hs:Same F F' w w'): ∀{l:List α} {cs:List Value},rows r F w cs l→rows r F' w' cs l
  | [],_,h=>h
  | _ :: _,_,h=>by
    obtain ⟨c,d,rfl,h1,h2⟩:=h
    exact ⟨c,d,rfl,r.mono hs h1,cO hs h2⟩
theorem mG {r:Rp α}: ∀{l m:List α} {cs ds:List Value},rows r F w cs l→rows r F w ds m→rows r F w (cs++ds) (l++m)
  | [],m,cs,ds,h,k=>by unfold rows at h; subst h; simpa using k
  | x :: l,m,cs,ds,h,k=>by
    obtain ⟨c,d,rfl,h1,h2⟩:=h
    exact ⟨c,d++ds,by simp,h1,mG h2 k⟩
theorem rO {r:Rp α}{c:List Value}{x:α}(h:r.rd F w c x):rows r F w c [x]:=⟨c,[],by simp,h,rfl⟩
theorem qI {r:Rp α}: ∀(i:Nat) {l:List α} {cs:List Value},rows r F w cs l→rows r F w (cs.drop (i * r.sz)) (l.drop i)
  | 0,l,cs,h=>by simpa using h
  | i+1,[],cs,h=>by unfold rows at h; subst h; simp [rows]
  | i+1,x :: l,cs,h=>by
    obtain ⟨c,d,rfl,h1,h2⟩:=h
    have hc:=r.len h1
    rw [show (i+1) * r.sz=c.length+i * r.sz by rw [hc,Nat.add_mul]; omega,List.drop_append,List.drop_eq_nil_of_le (by omega),List.nil_append,show c.length+i * r.sz - c.length=i * r.sz by omega]
    exact qI i h2
theorem tC {r:Rp α}: ∀(i:Nat) {l:List α} {cs:List Value},rows r F w cs l→rows r F w (cs.take (i * r.sz)) (l.take i)
  | 0,l,cs,h=>by simp [rows]
  | i+1,[],cs,h=>by unfold rows at h; subst h; simp [rows]
  | i+1,x :: l,cs,h=>by
    obtain ⟨c,d,rfl,h1,h2⟩:=h
    have hc:=r.len h1
    refine ⟨c,d.take (i * r.sz),?_,h1,tC i h2⟩
    rw [show (i+1) * r.sz=c.length+i * r.sz by rw [hc,Nat.add_mul]; omega,List.take_append,List.take_of_length_le (by omega),show c.length+i * r.sz - c.length=i * r.sz by omega]
theorem aHi {r:Rp α}{l:List α}{cs:List Value}{i:Nat}{x:α}(h:rows r F w cs l)(hx:l[i]? =some x):r.rd F w ((cs.drop (i * r.sz)).take r.sz) x:=by
  have h1:=qI i h
  have hi:=(List.getElem?_eq_some_iff.1 hx).1
  have e:l.drop i=x :: l.drop (i+1):=by
    rw [List.drop_eq_getElem_cons hi]; congr 1; exact (List.getElem?_eq_some_iff.1 hx).2
  rw [e] at h1
  obtain ⟨c,d,hcd,h2,h3⟩:=h1
  rw [hcd,← r.len h2,List.take_left']
  · exact h2
  · rfl
theorem aMx {r:Rp α}{l:List α}{cs c:List Value}{i:Nat}{x:α}(h:rows r F w cs l)(hi:i<l.length)(hc:r.rd F w c x):rows r F w (splice cs (i * r.sz) c) (l.set i x):=by
 have h1:=tC i h;have h2:=qI (i+1) h;have e:l.set i x=l.take i++([x]++l.drop (i+1)):=by rw [List.set_eq_take_append_cons_drop,if_pos hi]; simp
 rw [e];unfold splice;rw [List.append_assoc];refine mG h1 (mG (rO hc) ?_);rw [r.len hc,show i * r.sz+r.sz=(i+1) * r.sz by rw [Nat.add_mul]; omega];exact h2
def ints (k:IntKind)(l:List Int):List Value:=l.map (Value.int k)
theorem jV {k : IntKind} : ∀ {l : List Int} {cs : List Value}, rows (Rp.int k) F w cs l ↔ cs = ints k l
  | [], cs => Iff.rfl
  | x :: l, cs => by
    constructor
    · rintro ⟨c, d, rfl, h1, h2⟩
      have h1 : c = [.int k x] := h1
      rw [h1, jV.1 h2]; rfl
    · rintro rfl
      exact ⟨[.int k x], ints k l, rfl, rfl, jV.2 rfl⟩
def Rp.arr (n:Nat)(r:Rp α):Rp (List α):=
  ⟨n * r.sz,fun F w cs l=>l.length=n∧rows r F w cs l,fun ⟨h1,h2⟩=>by rw [aI h2,h1],fun ⟨_,h2⟩=>aCb h2,fun hs ⟨h1,h2⟩=>⟨h1,cO hs h2⟩⟩
def SlF (r:Rp α)(F:Nat→Prop)(w:World)(v:Value)(l:List α):Prop:=
  ∃xs,rows r F w xs l∧SlR w v r.sz l.length xs∧(0<l.length→ ∀b,aH v=some b→F b∧b<w.heap.size)
theorem SlR.same {s n : Nat} {v : Value} {xs : List Value} (h : SlR w v s n xs) (hb : 0 < n → ∀ b, aH v = some b → w'.heap[b]? = w.heap[b]?) : SlR w' v s n xs := by
  obtain ⟨hl, h⟩ := h
  refine ⟨hl, ?_⟩
  rcases h with h | ⟨a, cap, rfl, h1, h2, h3, hc⟩
  · exact .inl h
  · refine .inr ⟨a, cap, rfl, h1, h2, h3, ?_⟩
    rcases Nat.eq_zero_or_pos n with h0 | h0
    · intro i v hv
      have := (List.getElem?_eq_some_iff.1 hv).1
      rw [hl, h0] at this; omega
    · intro i v hv
      have h4 := hb h0 a.block rfl
      have := hc i v hv
      rw [World.cell?_of_block (w := w) (by rw [Addr.add_block]; exact h4)]
      exact this
theorem SlF.mono {r:Rp α}{v:Value}{l:List α}(hs:Same F F' w w')(h:SlF r F w v l):SlF r F' w' v l:=by
 obtain ⟨xs,h1,h2,h3⟩:=h;refine ⟨xs,cO hs h1,SlR.same h2 fun h0 b hb=>(hs b (h3 h0 b hb).1 (h3 h0 b hb).2).2,fun h0 b hb=>?_⟩;have q:=h3 h0 b hb;have p:=hs b q.1 q.2;refine ⟨p.1,?_⟩;have e:w.heap[b]? =some w.heap[b]:=Array.getElem?_eq_getElem q.2;rw [e] at p;exact (Array.getElem?_eq_some_iff.1 p.2).1
theorem SlR.one {s n:Nat}{v:Value}{xs:List Value}(h:SlR w v s n xs):v.oneCell'=true:=by
 obtain ⟨a,c,rfl⟩:=h.shape; rfl
def Rp.sl (r:Rp α):Rp (List α):=
  ⟨1,fun F w cs l=> ∃v,cs= [v]∧SlF r F w v l,fun ⟨v,e,_⟩=>by subst e; rfl,fun ⟨v,e,_,_,h2,_⟩=>by subst e; simpa using SlR.one h2,fun hs ⟨v,e,h⟩=>⟨v,e,SlF.mono hs h⟩⟩
theorem SlF.nil {r:Rp α}:SlF r F w (.slice none 0 0) []:=⟨[],rfl,SlR.nil,fun h=>by simp at h⟩
theorem SlF.len {r:Rp α}{v:Value}{l:List α}(h:SlF r F w v l): ∃a c,v= .slice a l.length c:=h.choose_spec.2.1.shape
end rp

structure Fz where
  p:(Nat→Prop)→World→Prop
  mono: ∀{F F' w w'},Same F F' w w'→p F w→p F' w'
def Fz.sl {α:Type}(r:Rp α)(v:Value)(l:List α):Fz:=⟨fun F w=>SlF r F w v l,fun hs h=>SlF.mono hs h⟩
theorem Cells.same {F F' : Nat → Prop} {w w' : World} {b o : Nat} {cs : List Value} (hs : Same F F' w w') (h1 : F b) (h2 : b < w.heap.size) (h : Cells w ⟨b, o, none⟩ cs) : F' b ∧ b < w'.heap.size ∧ Cells w' ⟨b, o, none⟩ cs := by
 have p := hs b h1 h2;refine ⟨p.1, ?_, fun i v hv => ?_⟩;have e : w.heap[b]? = some w.heap[b] := Array.getElem?_eq_getElem h2;rw [e] at p;exact (Array.getElem?_eq_some_iff.1 p.2).1;rw [World.cell?_of_block (w := w) (by rw [Addr.add_block]; exact p.2)];exact h i v hv
def Fz.at (b o:Nat)(cs:List Value):Fz:=⟨fun F w=>F b∧b<w.heap.size∧Cells w ⟨b,o,none⟩ cs,fun hs ⟨h1,h2,h3⟩=>Cells.same hs h1 h2 h3⟩
structure Rt (α:Type) where
  sz:Nat
  rd:(Nat→Prop)→World→List Value→List Nat→α→Prop
  len: ∀{F w cs bs x},rd F w cs bs x→cs.length=sz
  one: ∀{F w cs bs x},rd F w cs bs x→ ∀v ∈ cs,v.oneCell'=true
  mono: ∀{F F' w w' cs bs x},Same F F' w w'→(∀b ∈ bs,w'.heap[b]? =w.heap[b]?)→rd F w cs bs x→rd F' w' cs bs x
inductive Th:Type 1 where
  | tr {α:Type} (r:Rt α) (cs:List Value) (bs:List Nat) (x:α)
  | blk (b:Nat) (cs:List Value) (T:TypeId)
  | arr {α:Type} (r:Rp α) (b:Nat) (l:List α) (T:TypeId)
  | own {α:Type} (r:Rp α) (v:Value) (e:TypeId) (l:List α)
  | mp (b:Nat) (m:List (Value×Value))
  | fz (p:Fz)
def Th.blocks:Th→List Nat
  | .tr _ _ bs _=>bs
  | .blk b _ _=>[b]
  | .arr _ b _ _=>[b]
  | .own _ v _ _=>ob v
  | .mp b _=>[b]
  | .fz _=>[]
def Th.holds (F:Nat→Prop)(w:World):Th→Prop
  | .tr r cs bs x=>r.rd F w cs bs x
  | .blk b cs T=>Blk w b cs T
  | .arr r b l T=> ∃xs,rows r F w xs l∧Blk w b xs T
  | .own r v e l=> ∃xs,rows r F w xs l∧w.ownsRow 0 e r.sz v l.length xs
  | .mp b m=> ∃(es:Array MapEntry) (c:Nat),w.heap[b]? =some (.map es c)∧es.toList.map (fun e=>(e.key,e.val))=m
  | .fz p=>p.p F w
def bks (l:List Th):List Nat:=l.flatMap Th.blocks
def frees (O:List Nat)(l:List Th):Nat→Prop:=fun b=>b ∉ O∧b ∉ bks l
structure Hd (O:List Nat)(w0 w:World)(S:List Nat)(l:List Th):Prop where
  only:Only S w0 w
  holds: ∀it ∈ l,it.holds (frees O l) w
  own: ∀it ∈ l,∀b ∈ it.blocks,(w0.heap.size≤b∨b ∈ S)∧b<w.heap.size
  nd:(bks l).Nodup
  fo: ∀b ∈ O,b<w0.heap.size∧b ∉ S
theorem jC {w w':World}{b:Nat}{cs:List Value}{T:TypeId}(h:Blk w b cs T)(e:w'.heap[b]? =w.heap[b]?):Blk w' b cs T:=by unfold Blk at *; rw [e]; exact h
theorem owns_same {w w' : World} {B : Nat} {v : Value} {e s n : Nat} {xs : List Value} (h : w.ownsRow B e s v n xs) (hb : ∀ b ∈ ob v, w'.heap[b]? = w.heap[b]?) : w'.ownsRow B e s v n xs := by
  refine ⟨h.1, ?_⟩
  rcases h.2 with hn | ⟨g, cap, cur, rfl, h1, hg, rest⟩
  · exact .inl hn
  · refine .inr ⟨g, cap, cur, rfl, h1, ?_, rest⟩
    rw [hb g (by simp [ob, aH])]
    exact hg
theorem Th.same {F F':Nat→Prop}{w w':World}{it:Th}(h:it.holds F w)(hs:Same F F' w w')(hb: ∀b ∈ it.blocks,w'.heap[b]? =w.heap[b]?):it.holds F' w':=by
  cases it with
  | tr r cs bs x=>exact r.mono hs hb h
  | blk b cs T=>exact jC h (hb b (by simp [Th.blocks]))
  | arr r b l T=>obtain ⟨xs,h1,h2⟩:=h; exact ⟨xs,cO hs h1,jC h2 (hb b (by simp [Th.blocks]))⟩
  | own r v e l=>obtain ⟨xs,h1,h2⟩:=h; exact ⟨xs,cO hs h1,owns_same h2 hb⟩
  | mp b m=>obtain ⟨es,c,h1,h2⟩:=h; exact ⟨es,c,(hb b (by simp [Th.blocks])).trans h1,h2⟩
  | fz p=>exact p.mono hs h
theorem dQ {l:List Th}{b:Nat}:b ∈ bks l↔ ∃it ∈ l,b ∈ it.blocks:=List.mem_flatMap
theorem mZ (l m:List Th):bks (l++m)=bks l++bks m:=by simp [bks]
theorem nP {l:List Th}:(bks l).Nodup↔(∀it ∈ l,it.blocks.Nodup)∧l.Pairwise fun a b=> ∀x ∈ a.blocks,∀y ∈ b.blocks,x≠y:=by
 unfold bks List.Nodup; exact List.pairwise_flatMap
section sep
variable {O S:List Nat} {w0 w w':World} {l:List Th} {i:Nat}
theorem Hd.item (H:Hd O w0 w S l){it:Th}(hi:l[i]? =some it):it.holds (frees O l) w:=H.holds it (List.mem_of_getElem? hi)
theorem Hd.lt (H:Hd O w0 w S l){b:Nat}(hb:b ∈ bks l):b<w.heap.size:=by
 obtain ⟨it,hm,hb⟩:=dQ.1 hb; exact (H.own it hm b hb).2
theorem qL {w w':World}(ho:Only [] w w'){b:Nat}(hb:b<w.heap.size):w'.heap[b]? =w.heap[b]? :=ho.block b hb (by simp)
theorem Hd.step (H:Hd O w0 w S l)(ho:Only [] w w'):Hd O w0 w' S l:=
  ⟨H.only.trans (ho.mono (by simp)),fun it hm=>Th.same (H.holds it hm) (fun b hb hl=>⟨hb,qL ho hl⟩) (fun b hb=>qL ho (H.own it hm b hb).2),
   fun it hm b hb=>⟨(H.own it hm b hb).1,Nat.lt_of_lt_of_le (H.own it hm b hb).2 ho.size⟩,H.nd,H.fo⟩
theorem Hd.sees (H:Hd O w0 w S l)(ho:fJ w w'):Hd O w0 w' S l:=H.step (Only.of_below ho)
theorem Hd.add (H : Hd O w0 w S l) (ho : Only [] w w') {it : Th} (hh : Same (frees O l) (frees O (l ++ [it])) w w' → it.holds (frees O (l ++ [it])) w') (hb : ∀ b ∈ it.blocks, w.heap.size ≤ b ∧ b < w'.heap.size) (hn : it.blocks.Nodup) : Hd O w0 w' S (l ++ [it]) := by
  have hs : Same (frees O l) (frees O (l ++ [it])) w w' := by
    intro b hb' hl
    refine ⟨⟨hb'.1, ?_⟩, qL ho hl⟩
    rw [mZ, List.mem_append]
    rintro (h | h)
    · exact hb'.2 h
    · have := (hb b (by simpa [bks] using h)).1; omega
  refine ⟨H.only.trans (ho.mono (by simp)), ?_, ?_, ?_, H.fo⟩
  · intro x hx
    rcases List.mem_append.1 hx with hx | hx
    · exact Th.same (H.holds x hx) hs (fun b hb => qL ho (H.own x hx b hb).2)
    · obtain rfl := List.mem_singleton.1 hx; exact hh hs
  · intro x hx b hbx
    rcases List.mem_append.1 hx with hx | hx
    · exact ⟨(H.own x hx b hbx).1, Nat.lt_of_lt_of_le (H.own x hx b hbx).2 ho.size⟩
    · obtain rfl := List.mem_singleton.1 hx
      exact ⟨.inl (Nat.le_trans H.only.size (hb b hbx).1), (hb b hbx).2⟩
  · rw [mZ, List.nodup_append]
    refine ⟨H.nd, by simpa [bks] using hn, ?_⟩
    intro a ha c hc
    have := H.lt ha
    have := (hb c (by simpa [bks] using hc)).1
    omega
theorem Hd.fz (H:Hd O w0 w S l)(p:Fz)(hp:p.p (frees O l) w):Hd O w0 w S (l++ [.fz p]):=
  H.add (Only.refl [] w) (fun hs=>p.mono hs hp) (by simp [Th.blocks]) (by simp [Th.blocks])
theorem Hd.alloc {b:Nat}{cs:List Value}{T:TypeId}(H:Hd O w0 w S l)(ha:Al w w' b cs T):Hd O w0 w' S (l++ [.blk b cs T]):=
  H.add ha.only (fun _=>ha.blk) (by intro c hc; obtain rfl:=List.mem_singleton.1 hc; exact ⟨Nat.le_of_eq ha.at_.symm,by rw [ha.at_,ha.size]; omega⟩) (by simp [Th.blocks])
theorem rV (v:Value):(ob v).Nodup:=by unfold ob; cases aH v<;>simp
theorem Hd.turn (H : Hd O w0 w S l) {it it' : Th} (hi : l[i]? = some it) (ho : Only it.blocks w w') (hh : Same (frees O l) (frees O (l.set i it')) w w' → it'.holds (frees O (l.set i it')) w')
    (hb : ∀ b ∈ it'.blocks, (b ∈ it.blocks ∨ w.heap.size ≤ b) ∧ b < w'.heap.size) (hn : it'.blocks.Nodup) : Hd O w0 w' S (l.set i it') := by
  have hil := (List.getElem?_eq_some_iff.1 hi).1
  have e1 : l = l.take i ++ it :: l.drop (i + 1) := by
    have := List.take_append_drop i l
    rw [List.drop_eq_getElem_cons hil, (List.getElem?_eq_some_iff.1 hi).2] at this
    exact this.symm
  have e2 : l.set i it' = l.take i ++ it' :: l.drop (i + 1) := by rw [List.set_eq_take_append_cons_drop, if_pos hil]
  have hnd := H.nd
  rw [nP] at hnd
  have hp := hnd.2
  rw [e1, List.pairwise_append, List.pairwise_cons] at hp
  obtain ⟨p1, ⟨p2, p3⟩, p4⟩ := hp
  have oth : ∀ x ∈ l.take i ++ l.drop (i + 1), (∀ b ∈ x.blocks, b ∉ it.blocks ∧ b < w.heap.size) ∧ x ∈ l := by
    intro x hx
    have hxl : x ∈ l := by
      rcases List.mem_append.1 hx with h | h
      · exact List.mem_of_mem_take h
      · exact List.mem_of_mem_drop h
    refine ⟨fun b hb => ⟨fun hbi => ?_, (H.own x hxl b hb).2⟩, hxl⟩
    rcases List.mem_append.1 hx with h | h
    · exact p4 x h it List.mem_cons_self b hb b hbi rfl
    · exact p2 x h b hbi b hb rfl
  have mem2 : ∀ x, x ∈ l.set i it' ↔ x = it' ∨ x ∈ l.take i ++ l.drop (i + 1) := by
    intro x; rw [e2]; simp only [List.mem_append, List.mem_cons]
    constructor
    · rintro (h | h | h)
      · exact .inr (.inl h)
      · exact .inl h
      · exact .inr (.inr h)
    · rintro (h | h | h)
      · exact .inr (.inl h)
      · exact .inl h
      · exact .inr (.inr h)
  have itm : it ∈ l := List.mem_of_getElem? hi
  have same : Same (frees O l) (frees O (l.set i it')) w w' := by
    intro b hbf hl
    refine ⟨⟨hbf.1, fun hm => ?_⟩, ho.block b hl (fun h => hbf.2 (dQ.2 ⟨it, itm, h⟩))⟩
    obtain ⟨x, hx, hbx⟩ := dQ.1 hm
    rcases (mem2 x).1 hx with rfl | hx
    · rcases (hb b hbx).1 with h | h
      · exact hbf.2 (dQ.2 ⟨it, itm, h⟩)
      · omega
    · exact hbf.2 (dQ.2 ⟨x, (oth x hx).2, hbx⟩)
  refine ⟨⟨ho.os.trans H.only.os, ho.tape.trans H.only.tape, ho.output.trans H.only.output, Nat.le_trans H.only.size ho.size, fun k hk hks => ?_⟩, ?_, ?_, ?_, H.fo⟩
  · have hkw := Nat.lt_of_lt_of_le hk H.only.size
    rw [ho.block k hkw (fun h => ?_), H.only.block k hk hks]
    rcases (H.own it itm k h).1 with h | h
    · omega
    · exact hks h
  · intro x hx
    rcases (mem2 x).1 hx with rfl | hx
    · exact hh same
    · exact Th.same (H.holds x (oth x hx).2) same (fun b hb' => ho.block b ((oth x hx).1 b hb').2 ((oth x hx).1 b hb').1)
  · intro x hx b hbx
    rcases (mem2 x).1 hx with rfl | hx
    · refine ⟨?_, (hb b hbx).2⟩
      rcases (hb b hbx).1 with h | h
      · exact (H.own it itm b h).1
      · exact .inl (Nat.le_trans H.only.size h)
    · exact ⟨(H.own x (oth x hx).2 b hbx).1, Nat.lt_of_lt_of_le ((oth x hx).1 b hbx).2 ho.size⟩
  · rw [nP]
    refine ⟨fun x hx => ?_, ?_⟩
    · rcases (mem2 x).1 hx with rfl | hx
      · exact hn
      · exact hnd.1 x (oth x hx).2
    · rw [e2, List.pairwise_append, List.pairwise_cons]
      have far : ∀ x ∈ l.take i ++ l.drop (i + 1), ∀ a ∈ x.blocks, ∀ c ∈ it'.blocks, a ≠ c := by
        intro x hx a ha c hc e
        subst e
        rcases (hb a hc).1 with h | h
        · exact ((oth x hx).1 a ha).1 h
        · have := ((oth x hx).1 a ha).2; omega
      refine ⟨p1, ⟨fun x hx a ha c hc e => far x (List.mem_append_right _ hx) c hc a ha e.symm, p3⟩, ?_⟩
      intro x hx y hy
      rcases List.mem_cons.1 hy with rfl | hy
      · exact far x (List.mem_append_left _ hx)
      · exact p4 x hx y (List.mem_cons_of_mem _ hy)
theorem Hd.wr {b:Nat}{cs cs':List Value}{T:TypeId}(H:Hd O w0 w S l)(hi:l[i]? =some (.blk b cs T))(hw:Wr w w' b cs' T):Hd O w0 w' S (l.set i (.blk b cs' T)):=
  H.turn hi hw.only (fun _=>hw.blk) (by intro c hc; obtain rfl:=List.mem_singleton.1 hc; exact ⟨.inl (by simp [Th.blocks]),hw.blk.lt⟩) (by simp [Th.blocks])
theorem Hd.apart (H:Hd O w0 w S l){j:Nat}{it x:Th}(hi:l[i]? =some it)(hj:l[j]? =some x)(hn:i≠j): ∀b ∈ it.blocks,b ∉ x.blocks:=by
  have hp:=(nP.1 H.nd).2
  rw [List.pairwise_iff_getElem] at hp
  obtain ⟨li,hi⟩:=List.getElem?_eq_some_iff.1 hi
  obtain ⟨lj,hj⟩:=List.getElem?_eq_some_iff.1 hj
  intro b hb hb'
  rcases Nat.lt_or_gt_of_ne hn with h | h
  · exact hp i j li lj h b (hi ▸ hb) b (hj ▸ hb') rfl
  · exact hp j i lj li h b (hj ▸ hb') b (hi ▸ hb) rfl
theorem Hd.notO (H:Hd O w0 w S l){it:Th}(hm:it ∈ l){b:Nat}(hb:b ∈ it.blocks):b ∉ O:=by
  intro ho
  have:=H.fo b ho
  rcases (H.own it hm b hb).1 with h | h
  · omega
  · exact this.2 h
theorem wV {l : List Th} {i : Nat} {it' : Th} {b : Nat} (h : b ∈ bks (l.set i it')) : b ∈ it'.blocks ∨ ∃ j x, j ≠ i ∧ l[j]? = some x ∧ b ∈ x.blocks := by
 obtain ⟨x, hx, hb⟩ := dQ.1 h;obtain ⟨j, hj⟩ := List.getElem?_of_mem hx;rw [List.getElem?_set] at hj;split at hj;split at hj;cases hj; exact .inl hb;cases hj;rename_i hne; exact .inr ⟨j, x, fun e => hne e.symm, hj, hb⟩
theorem Hd.freeze {α:Type}{r:Rp α}{v:Value}{e:TypeId}{xl:List α}(H:Hd O w0 w S l)(hi:l[i]? =some (.own r v e xl)):Hd O w0 w S (l.set i (.fz (.sl r v xl))):=by
  refine H.turn hi (Only.refl _ w) (fun hs=>?_) (by simp [Th.blocks]) (by simp [Th.blocks])
  obtain ⟨xs,h1,h2⟩:=H.item hi
  refine ⟨xs,cO hs h1,vI h2,fun h0 b hb=>?_⟩
  have hbm:b ∈ (Th.own r v e xl).blocks:=kK.2 hb
  refine ⟨⟨H.notO (List.mem_of_getElem? hi) hbm,fun hm=>?_⟩,(H.own _ (List.mem_of_getElem? hi) b hbm).2⟩
  rcases wV hm with h | ⟨j,x,hj,hx,hbx⟩
  · simp [Th.blocks] at h
  · exact H.apart hx hi hj b hbx hbm
def pick (idx:List Nat)(l:List Th):List Th:=idx.filterMap (fun i=>l[i]?)
theorem jD {idx:List Nat}{x:Th}:x ∈ pick idx l↔ ∃i ∈ idx,l[i]? =some x:=by unfold pick; rw [List.mem_filterMap]
theorem aHg {idx:List Nat}{b:Nat}(h:b ∈ bks (pick idx l)): ∃i ∈ idx,∃x,l[i]? =some x∧b ∈ x.blocks:=by
 obtain ⟨x,hx,hb⟩:=dQ.1 h;obtain ⟨i,hi,hx⟩:=jD.1 hx;exact ⟨i,hi,x,hx,hb⟩
theorem xZ {idx:List Nat}{b:Nat}(h:b ∈ bks (pick idx l)):b ∈ bks l:=by
 obtain ⟨i,_,x,hx,hb⟩:=aHg h;exact dQ.2 ⟨x,List.mem_of_getElem? hx,hb⟩
theorem Hd.pick_nd (H : Hd O w0 w S l) {idx : List Nat} (hn : idx.Nodup) : (bks (pick idx l)).Nodup := by
 rw [nP];refine ⟨fun x hx => ?_, ?_⟩;obtain ⟨i, _, hx⟩ := jD.1 hx;exact (nP.1 H.nd).1 x (List.mem_of_getElem? hx);unfold pick;rw [List.pairwise_filterMap];exact hn.imp fun {i j} hij x hx y hy a ha c hc e => by subst e; exact H.apart hx hy hij a ha hc
theorem Hd.pick (H : Hd O w0 w S l) (idx : List Nat) (hn : idx.Nodup := by decide) : Hd O w0 w S (pick idx l) := by
 refine ⟨H.only, fun x hx => ?_, fun x hx b hb => ?_, H.pick_nd hn, H.fo⟩;obtain ⟨i, _, hx⟩ := jD.1 hx;exact Th.same (H.item hx) (fun b hb _ => ⟨⟨hb.1, fun h => hb.2 (xZ h)⟩, rfl⟩) (fun _ _ => rfl);obtain ⟨i, _, hx⟩ := jD.1 hx;exact H.own x (List.mem_of_getElem? hx) b hb
def aJy (idx:List Nat)(n:Nat):List Nat:=(List.range n).filter fun i=> !idx.contains i
def rest (idx:List Nat)(l:List Th):List Th:=pick (aJy idx l.length) l
theorem aNm (idx:List Nat)(n:Nat):(aJy idx n).Nodup:=List.nodup_range.filter _
theorem mem_restI {idx:List Nat}{n i:Nat}(h:i ∈ aJy idx n):i ∉ idx:=by
 unfold aJy at h;rw [List.mem_filter] at h;simpa using h.2
def aRh (l:List Th)(i:Nat):Bool:=match l[i]? with
  | some (.fz _)=>true
  | _=>false
theorem aMt {l:List Th}{x:Th}(h:aRh l i=true)(hx:l[i]? =some x):x.blocks= []:=by
 unfold aRh at h;rw [hx] at h;cases x<;>simp_all [Th.blocks]
theorem Hd.rest_apart (H:Hd O w0 w S l){ow fs:List Nat}(hf:fs.all (aRh l)=true){b:Nat}(hb:b ∈ bks (rest ow l)):b ∉ bks (Go.Lf.pick (ow++fs) l):=by
  intro h
  obtain ⟨j,hj,y,hy,hby⟩:=aHg hb
  obtain ⟨i,hi,x,hx,hbx⟩:=aHg h
  rcases List.mem_append.1 hi with hi | hi
  · exact H.apart hx hy (fun e=>mem_restI hj (e ▸ hi)) b hbx hby
  · rw [aMt (List.all_eq_true.1 hf i hi) hx] at hbx; cases hbx
theorem Hd.enter (H : Hd O w0 w S l) (ow fs : List Nat) (hn : (ow ++ fs).Nodup := by decide) (hf : fs.all (aRh l) = true := by exact rfl) :
    Hd (O ++ bks (rest ow l)) w w (bks (Go.Lf.pick (ow ++ fs) l)) (Go.Lf.pick (ow ++ fs) l) := by
  refine ⟨Only.refl _ w, fun x hx => ?_, fun x hx b hb => ⟨.inr (dQ.2 ⟨x, hx, hb⟩), ?_⟩, H.pick_nd hn, fun b hb => ?_⟩
  · obtain ⟨i, _, hx⟩ := jD.1 hx
    refine Th.same (H.item hx) (fun b hb _ => ⟨⟨fun h => ?_, fun h => hb.2 (xZ h)⟩, rfl⟩) (fun _ _ => rfl)
    rcases List.mem_append.1 h with h | h
    · exact hb.1 h
    · exact hb.2 (xZ h)
  · obtain ⟨i, _, hx⟩ := jD.1 hx
    exact (H.own x (List.mem_of_getElem? hx) b hb).2
  · rcases List.mem_append.1 hb with h | h
    · have := H.fo b h
      refine ⟨Nat.lt_of_lt_of_le this.1 H.only.size, fun hm => ?_⟩
      obtain ⟨x, hx, hbx⟩ := dQ.1 (xZ hm)
      exact H.notO hx hbx h
    · exact ⟨H.lt (xZ h), H.rest_apart hf h⟩
theorem Hd.back {l2 : List Th} (H : Hd O w0 w S l) (ow fs : List Nat) (hf : fs.all (aRh l) = true)
    (G : Hd (O ++ bks (rest ow l)) w w' (bks (Go.Lf.pick (ow ++ fs) l)) l2) : Hd O w0 w' S (rest ow l ++ l2) := by
  have far : ∀ b ∈ bks (rest ow l), b ∉ bks l2 := by
    intro b hb h
    obtain ⟨x, hx, hbx⟩ := dQ.1 h
    rcases (G.own x hx b hbx).1 with h | h
    · have := H.lt (xZ hb); omega
    · exact H.rest_apart hf hb h
  have same : Same (frees O l) (frees O (rest ow l ++ l2)) w w' := by
    intro b hb hl
    refine ⟨⟨hb.1, fun hm => ?_⟩, G.only.block b hl (fun h => hb.2 (xZ h))⟩
    rw [mZ, List.mem_append] at hm
    rcases hm with h | h
    · exact hb.2 (xZ h)
    · obtain ⟨x, hx, hbx⟩ := dQ.1 h
      rcases (G.own x hx b hbx).1 with h | h
      · omega
      · exact hb.2 (xZ h)
  refine ⟨⟨G.only.os.trans H.only.os, G.only.tape.trans H.only.tape, G.only.output.trans H.only.output, Nat.le_trans H.only.size G.only.size, fun k hk hks => ?_⟩, fun x hx => ?_, fun x hx b hb => ?_, ?_, H.fo⟩
  · rw [G.only.block k (Nat.lt_of_lt_of_le hk H.only.size) (fun h => ?_), H.only.block k hk hks]
    obtain ⟨x, hx, hbx⟩ := dQ.1 (xZ h)
    rcases (H.own x hx k hbx).1 with h | h
    · omega
    · exact hks h
  · rcases List.mem_append.1 hx with h | h
    · obtain ⟨i, hi, hxi⟩ := jD.1 h
      refine Th.same (H.item hxi) same (fun b hb => G.only.block b (H.own x (List.mem_of_getElem? hxi) b hb).2 (H.rest_apart hf (dQ.2 ⟨x, h, hb⟩)))
    · refine Th.same (G.holds x h) (fun b hb _ => ⟨⟨fun ho => hb.1 (List.mem_append_left _ ho), fun hm => ?_⟩, rfl⟩) (fun _ _ => rfl)
      rw [mZ, List.mem_append] at hm
      rcases hm with hm | hm
      · exact hb.1 (List.mem_append_right _ hm)
      · exact hb.2 hm
  · rcases List.mem_append.1 hx with h | h
    · obtain ⟨i, hi, hxi⟩ := jD.1 h
      have := H.own x (List.mem_of_getElem? hxi) b hb
      exact ⟨this.1, Nat.lt_of_lt_of_le this.2 G.only.size⟩
    · have := G.own x h b hb
      refine ⟨?_, this.2⟩
      rcases this.1 with h | h
      · exact .inl (Nat.le_trans H.only.size h)
      · obtain ⟨y, hy, hby⟩ := dQ.1 (xZ h)
        exact (H.own y hy b hby).1
  · rw [mZ, List.nodup_append]
    exact ⟨H.pick_nd (aNm _ _), G.nd, fun a ha c hc e => far a ha (e ▸ hc)⟩
theorem aPx: ∀(l pre:List Th),(List.range' pre.length l.length).filterMap (fun i=>(pre++l)[i]?)=l
  | [],pre=>by simp
  | x :: l,pre=>by
    rw [List.length_cons,List.range'_succ,List.filterMap_cons]
    have h:(pre++x :: l)[pre.length]? =some x:=by simp
    rw [h]
    have ih:=aPx l (pre++ [x])
    simp only [List.length_append,List.length_cons,List.length_nil,Nat.zero_add,List.append_assoc,List.singleton_append] at ih
    simp only [ih]
theorem rest_nil (l:List Th):rest [] l=l:=by
 have h:aJy [] l.length=List.range' 0 l.length:=by unfold aJy; rw [List.range_eq_range',List.filter_eq_self]; simp
 unfold rest Go.Lf.pick;rw [h];exact aPx l []
theorem Hd.back1 {l2:List Th}(H:Hd O w0 w S l)(fs:List Nat)(hf:fs.all (aRh l)=true)
    (G:Hd (O++bks (rest [] l)) w w' (bks (Go.Lf.pick ([]++fs) l)) l2):Hd O w0 w' S (l++l2):=by
 have:=H.back [] fs hf G;rwa [rest_nil] at this
end sep
end Go.Lf
namespace Go.Lf
open Go.RowKit Go.OB

section
variable {P:Program} {ρ:Env} {w w0 w1:World} {d:Option Tmp} {x y z:Operand} {t u ty e:TypeId} {pos:String} {af:Array Edge} {g:Option (Nat×Bool)}
variable {v:Value} {b o i n c s:Nat} {k k':IntKind} {cs xs vs:List Value} {T:TypeId} {O S:List Nat} {l:List Th} {α:Type} {r:Rp α} {xl yl zl:List α} {a:α} {j:Int} {F:Nat→Prop}

theorem xW (h:SlF r F w v xl)(hx:at' xl j=some a): ∃b o cap cs,v= .slice (some ⟨b,o,none⟩) xl.length cap∧r.rd F w cs a∧F b∧b<w.heap.size∧Cells w ⟨b,o+j.toNat * r.sz,none⟩ cs:=by
 obtain ⟨h0,hl,hx⟩:=zL hx;obtain ⟨xs,h1,h2,h3⟩:=h;have hn:0<xl.length:=by omega
 obtain ⟨b,o,cap,rfl,-,-,hc⟩:=h2.some hn;have h4:=h3 hn b rfl;exact ⟨b,o,cap,_,rfl,aHi h1 hx,h4.1,h4.2,hc.drop _ _⟩
theorem own_at0 (h: ∃xs,rows r F w xs xl∧w.ownsRow 0 e r.sz v xl.length xs)(hx:at' xl j=some a): ∃b cap cs,v= .slice (some ⟨b,0,none⟩) xl.length cap∧r.rd F w cs a∧Cells w ⟨b,j.toNat * r.sz,none⟩ cs:=by
  obtain ⟨h0,hl,hx⟩:=zL hx
  obtain ⟨xs,h1,h2⟩:=h
  obtain ⟨b,cap,cur,rfl,hb,-,-⟩:=owns_some h2 (by omega)
  refine ⟨b,cap,_,rfl,aHi h1 hx,fun i v hv=>?_⟩
  have hlen:=aI h1
  rw [Addr.add_none]
  refine hb.cell ?_
  have hi:(xs.drop (j.toNat * r.sz))[i]? =some v:=by
    rw [List.getElem?_take] at hv
    split at hv
    · exact hv
    · cases hv
  rw [List.getElem?_drop] at hi
  rw [List.getElem?_append_left (List.getElem?_eq_some_iff.1 hi).1]
  exact hi
theorem dZ (h: ∃xs,rows r F w xs xl∧w.ownsRow 0 e r.sz v xl.length xs)(hx:at' xl j=some a): ∃b cap cs,v= .slice (some ⟨b,0,none⟩) xl.length cap∧r.rd F w cs a∧Cells w ⟨b,0+j.toNat * r.sz,none⟩ cs:=by
 obtain ⟨b,cap,cs,h1,h2,h3⟩:=own_at0 h hx;exact ⟨b,cap,cs,h1,h2,by rw [Nat.zero_add]; exact h3⟩
def Sr (r:Rp α)(F:Nat→Prop)(w:World)(v:Value)(l:List α):Prop:= ∃xs,rows r F w xs l∧SlR w v r.sz l.length xs
theorem Sr.of_rd (h:SlF r F w v xl):Sr r F w v xl:=⟨_,h.choose_spec.1,h.choose_spec.2.1⟩
theorem Sr.of_own (h: ∃xs,rows r F w xs xl∧w.ownsRow 0 e r.sz v xl.length xs):Sr r F w v xl:=⟨_,h.choose_spec.1,vI h.choose_spec.2⟩
theorem Sr.len (h:Sr r F w v xl): ∃a c,v= .slice a xl.length c:=h.choose_spec.2.shape
theorem aLr {fs:Array Field}{f:Field}{m:Nat}(hu:P.underlying t=some (.struct fs))(hf:fs[i]? =some f)(hs:Sz P f.type n)(hn:n≠0)(hx:ev ρ x= .pointer (some ⟨b,o,none⟩))(hm:o+f.offset=m):
    Do P ⟨d,.fieldAddr t x i,ty,pos,af,g⟩ ρ w (.pointer (some ⟨b,m,none⟩)) w:=by
 subst hm;unfold Do;simp [execOp,Instr.fieldAt,Instr.sureAddr,fieldPlace,hx,hf,run_underlying hu,bZ hs,hn,Addr.add_none]
theorem bD {bytes:Nat}{zs:List Value}{uv:Value}(H:Hd O w0 w S l)(hi:l[i]? =some (.own r v e xl))(hu:P.underlying t=some (.slice e))(he:El P e r.sz bytes zs)(hx:ev ρ x=v)(hy:ev ρ y=uv)
    (hr:Sr r (frees O l) w uv yl)(ha:app' bytes xl yl=some zl):
    ∃v' w',Do P ⟨d,.call {callee:= .builtin .append,args:= #[x,y],argTypes:= #[t,t]},ty,pos,af,g⟩ ρ w v' w'∧Hd O w0 w' S (l.set i (.own r v' e zl)):=by
 obtain ⟨h1,h2,rfl⟩:=aCq ha;obtain ⟨xs,r1,r2⟩:=H.item hi;obtain ⟨ys,s1,s2⟩:=hr;obtain ⟨v',w',hd,hA⟩:=aJd (P:=P) (ρ:=ρ) (w:=w) (d:=d) (ty:=ty) (pos:=pos) (af:=af) (g:=g) hu he hx hy r2 s2 (aCb s1) h1 h2;refine ⟨v',w',hd,H.turn hi hA.only (fun hs=>?_) (fun b hb=>⟨(hA.blk b (kK.1 hb)).imp kK.2 id,(rF hA.own b hb).2⟩) (rV v')⟩;exact ⟨xs++ys,cO hs (mG r1 s1),by simpa using hA.own⟩
theorem xB (hz:Zero P t cs)(H:Hd O w0 w S l): ∃v w',Do P ⟨d,.alloc t,ty,pos,af,g⟩ ρ w v w'∧ ∃b,v= .pointer (some ⟨b,0,none⟩)∧Hd O w0 w' S (l++ [.blk b cs t]):=by
 obtain ⟨v,w',h1,b,h2,h3⟩:=aNd (P:=P) (ρ:=ρ) (w:=w) (d:=d) (ty:=ty) (pos:=pos) (af:=af) (g:=g) hz;exact ⟨v,w',h1,b,h2,H.alloc h3⟩
theorem xC (hx:ev ρ x= .agg cs.toArray)(H:Hd O w0 w S l): ∃v w',Do P ⟨d,.box t x,ty,pos,af,g⟩ ρ w v w'∧ ∃b,v= .pointer (some ⟨b,0,none⟩)∧Hd O w0 w' S (l++ [.blk b cs t]):=by
 obtain ⟨v,w',h1,b,h2,h3⟩:=Ex_box (P:=P) (ρ:=ρ) (w:=w) (d:=d) (ty:=ty) (pos:=pos) (af:=af) (g:=g) hx;exact ⟨v,w',h1,b,h2,H.alloc h3⟩
theorem aKo (hx:ev ρ x=v)(hv:v.cells= #[v])(H:Hd O w0 w S l): ∃u w',Do P ⟨d,.box t x,ty,pos,af,g⟩ ρ w u w'∧ ∃b,u= .pointer (some ⟨b,0,none⟩)∧Hd O w0 w' S (l++ [.blk b [v] t]):=by
 obtain ⟨v,w',h1,b,h2,h3⟩:=Ex_box1 (P:=P) (ρ:=ρ) (w:=w) (d:=d) (ty:=ty) (pos:=pos) (af:=af) (g:=g) hx hv;exact ⟨v,w',h1,b,h2,H.alloc h3⟩
theorem xO (H:Hd O w0 w S l)(n:Nat)(hi:l[n]? =some (.blk b cs T))(hs:Sz P t 1)(hx:ev ρ x= .pointer (some ⟨b,i,none⟩))(hy:ev ρ y=v)(h1:v.oneCell'=true)(hl:Nat.blt i cs.length=true):
    ∃w',DoU P ⟨none,.store t x y,ty,pos,af,g⟩ ρ w w'∧Hd O w0 w' S (l.set n (.blk b (cs.set i v) T)):=by
 have hl:i<cs.length:=by rw [Nat.blt] at hl; exact Nat.lt_of_succ_le (Nat.le_of_ble_eq_true hl)
 obtain ⟨w',h2,h3⟩:=Ex_store1 (P:=P) (ρ:=ρ) (ty:=ty) (pos:=pos) (af:=af) (g:=g) hs hx hy h1 (H.item hi) hl;exact ⟨w',h2,H.wr hi h3⟩
def aHf:List Value→Prop
  | []=>True
  | v :: l=>v.oneCell'=true∧aHf l
theorem dI: ∀{l:List Value},aHf l→ ∀v ∈ l,v.oneCell'=true
  | [],_,v,h=>by cases h
  | x :: l,h,v,hv=>by
    rcases List.mem_cons.1 hv with e | e
    · rw [e]; exact h.1
    · exact dI h.2 v e
theorem dD (h:SlF r F w v xl):v.oneCell'=true:=SlR.one h.choose_spec.2.1
theorem bW (h: ∃xs,rows r F w xs xl∧w.ownsRow 0 e r.sz v xl.length xs):v.oneCell'=true:=SlR.one (vI h.choose_spec.2)
def aSr (s:Nat):List Value→Prop
  | []=>True
  | v :: l=>v.cells.size=s∧aSr s l
theorem aJs {s:Nat}: ∀{l:List Value},aSr s l→ ∀v ∈ l,v.cells.size=s
  | [],_,v,h=>by cases h
  | x :: l,h,v,hv=>by
    rcases List.mem_cons.1 hv with e | e
    · rw [e]; exact h.1
    · exact aJs h.2 v e
theorem yN (H:Hd O w0 w S l)(n:Nat)(hi:l[n]? =some (.blk b cs T)){m:Nat}(hs:Sz P t m)(hm:vs.length=m)(hx:ev ρ x= .pointer (some ⟨b,i,none⟩))(hy:ev ρ y= .agg vs.toArray)(h1:aHf vs)(hl:Nat.ble (i+vs.length) cs.length=true):
    ∃w',DoU P ⟨none,.store t x y,ty,pos,af,g⟩ ρ w w'∧Hd O w0 w' S (l.set n (.blk b (splice cs i vs) T)):=by
 obtain ⟨w',h2,h3⟩:=aOt (P:=P) (ρ:=ρ) (ty:=ty) (pos:=pos) (af:=af) (g:=g) hs hm hx hy (dI h1) (H.item hi) (Nat.le_of_ble_eq_true hl);exact ⟨w',h2,H.wr hi h3⟩
theorem aT {len bytes : Nat} {zs : List Value} {parts : Array (Nat × Operand)} (hu : P.underlying t = some (.slice e)) (he : El P e r.sz bytes zs) (hsmall : len * r.sz ≤ 16777216) (hpos : 0 < len * r.sz) (hln : xl.length = len)
    (hf : rQ r.sz len zs (parts.toList.map fun p => (p.1, ev ρ p.2)) = some cs) (H : Hd O w0 w S l) (hr : rows r (frees O l) w cs xl) :
    ∃ v w', Do P ⟨d, .buildSlice t len parts, ty, pos, af, g⟩ ρ w v w' ∧ Hd O w0 w' S (l ++ [.own r v e xl]) := by
 obtain ⟨v, w', h1, b, rfl, hA⟩ := Ex_bs (P := P) (ρ := ρ) (w := w) (d := d) (ty := ty) (pos := pos) (af := af) (g := g) hu he hsmall hpos hf;refine ⟨_, w', h1, H.add hA.only (fun hs => ⟨cs, cO hs hr, ?_⟩) (fun b' hb' => ?_) (rV _)⟩;have hlen := aI hr;subst hln;exact ⟨hlen, .inr ⟨b, xl.length, cs.toArray, rfl, Nat.zero_le _, hA.blk, Nat.le_refl _, (by rw [maxLen_eq]; have h0 : r.sz ≠ 0 := (by intro h; rw [h] at hpos; simp at hpos); have : xl.length ≤ xl.length * r.sz := Nat.le_mul_of_pos_right _ (by omega); omega), (by simpa using hlen), (by rw [List.take_of_length_le]; simp [hlen])⟩⟩;have : b' = b := by simpa [Th.blocks, ob, aH] using hb'
 subst this;exact ⟨Nat.le_of_eq hA.at_.symm, by rw [hA.size, hA.at_]; omega⟩
theorem dH (H:Hd O w0 w S l)(r:Rp α)(e:TypeId):Hd O w0 w S (l++ [.own r (.slice none 0 0) e []]):=
  H.add (Only.refl [] w) (fun _=>⟨[],rfl,w.ownsRow_nil 0 e r.sz⟩) (by simp [Th.blocks,ob,aH]) (by simp [Th.blocks,ob,aH])
end
end Go.Lf
namespace Go.Lf
open Go.RowKit Go.OB

section
variable {P:Program} {N:Nat} {ops:Array Oper} {κ:List Kd} {K:Env→World→Prop} {Q:Exit→Env→World→Prop} {k:Nat} {rest:List Oper} {ρ:Env} {w:World} {v:Value} {d:Nat} {op:Op} {ty:TypeId} {pos:String} {af:Array Edge} {g:Option (Nat×Bool)}
theorem aBd {R:Value→Prop}(hw:dA N ops ρ ⟨some d,op,ty,pos,af,g⟩=true)(hd:Nat.blt d N=true)(h: ∃v,(∀w',Do P ⟨some d,op,ty,pos,af,g⟩ ρ w' v w')∧R v)(n: ∀v,R v→RL P N ops Q rest (upd ρ d v) w):
    RL P N ops Q (⟨some d,op,ty,pos,af,g⟩ :: rest) ρ w:=by
 obtain ⟨v,h1,h2⟩:=h;exact wI hw hd (h1 w) (n v h2)
end

section
variable {P:Program} {ρ:Env} {w w0 w1:World} {d:Option Tmp} {x y z:Operand} {t u ty e:TypeId} {pos:String} {af:Array Edge} {g:Option (Nat×Bool)}
variable {v:Value} {b o i n c s:Nat} {k k':IntKind} {cs xs vs:List Value} {T:TypeId} {O S:List Nat} {l:List Th} {α:Type} {r:Rp α} {xl yl zl:List α} {a:α} {j q:Int} {F:Nat→Prop}

theorem kN {f:FuncId}{args:Array Operand}{at_:Array TypeId}{us cap:List Value}(hf:Enters P f)(hx:ev ρ x= .func (.func f) #[] cap.toArray)(ha:args.toList.map (ev ρ)=us):
    DoC P ⟨d,.call {callee:= .value x,args:=args,argTypes:=at_},ty,pos,af,g⟩ ρ w f (us++cap).toArray:=by
  obtain ⟨fn,h1,h2,h3⟩:=hf
  have h2': ¬fn.body=none:=by cases hb:fn.body<;>simp_all
  have h3': ¬fn.name= "runtime.NumGoroutine" :=by simpa using h3
  have h4: ∀as,(callFunc f as).run P w= .ok (.enter f as) w:=by
    intro as; simp [callFunc,Sem.run,h1,h2',h3',program]
  unfold DoC
  have e:args.map (ev ρ)=us.toArray:=by rw [← ha]; apply Array.ext'; simp
  simp only [execOp,resolve,hx,Deferred.ofValue]
  rw [e]
  simp [invoke,h4]
theorem aJ {f:FuncId}{cap:Array Operand}{us:List Value}(hc:cap.toList.map (ev ρ)=us):Do P ⟨d,.makeFunc (.func f) #[] cap,ty,pos,af,g⟩ ρ w (.func (.func f) #[] us.toArray) w:=by
 have e:cap.map (ev ρ)=us.toArray:=by rw [← hc]; apply Array.ext'; simp
 unfold Do;simp [execOp,Instr.makeFunc,e]
theorem dF {s1 s2:Str}(hx:ev ρ x= .string (bs s1))(hy:ev ρ y= .string (bs s2)):Do P ⟨d,.binOp .eql t x y u,ty,pos,af,g⟩ ρ w (.bool (decide (s1=s2))) w:=
  OB.yO (Do_eqlstr hx hy) (congrArg Value.bool (decide_eq_decide.2 bs_inj))
theorem wW {s1 s2:Str}(hx:ev ρ x= .string (bs s1))(hy:ev ρ y= .string (bs s2)):Do P ⟨d,.binOp .neq t x y u,ty,pos,af,g⟩ ρ w (.bool (decide (s1≠s2))) w:=
  OB.yO (Do_neqstr hx hy) (congrArg Value.bool (decide_eq_decide.2 (not_congr bs_inj)))
theorem aDf {s1:Str}(hu:P.underlying t=some .string)(hx:ev ρ x= .string (bs s1)):
    Do P ⟨d,.call {callee:= .builtin .len,args:= #[x],argTypes:= #[t]},ty,pos,af,g⟩ ρ w (.int .i64 (s1.length:Nat)) w:=
  OB.yO (Do_lens hu hx) (by rw [aBw])
def byte' (s:Str)(i:Int):Option Int:=(at' s i).map fun c=>(c.toNat:Int)
theorem wQ {s1:Str}{c:Int}(hu:P.underlying t=some .string)(hx:ev ρ x= .string (bs s1))(hy:ev ρ y= .int k q)(h:byte' s1 q=some c):Do P ⟨d,.index t x y,ty,pos,af,g⟩ ρ w (.int .u8 c) w:=by
  unfold byte' at h
  cases ha:at' s1 q with
  | none=>rw [ha] at h; cases h
  | some c'=>
    rw [ha] at h
    obtain rfl:(c'.toNat:Int)=c:=by simpa using h
    obtain ⟨h0,h1,h2⟩:=zL ha
    have e:(bs s1)[q.toNat]? =some c':=by
      obtain ⟨h3,h4⟩:=List.getElem?_eq_some_iff.1 h2
      have h5:q.toNat<(bs s1).size:=by rw [aBw]; exact h3
      rw [getElem?_pos (bs s1) q.toNat h5]
      simp [bs,ByteArray.getElem_eq_getElem_data,h4]
    unfold Do
    simp [execOp,Instr.index,hx,hy,asIntOf,run_underlying hu,h0,e]
theorem aSe {pv:Option Addr}(hu:P.underlying t=some (.pointer e))(hx:ev ρ x= .pointer pv)(hy:ev ρ y= .pointer none):Do P ⟨d,.binOp .eql t x y u,ty,pos,af,g⟩ ρ w (.bool pv.isNone) w:=by
 have hp:P.underlying t=some (.pointer (P.pointee t)):=by rw [hu]; simp [Program.pointee,hu]
 unfold Do;simp only [execOp,hx,hy,eqGuard];have:=run_eql_pointer_nil w t pv hp;simp [this]
theorem aRv {pv:Option Addr}(hu:P.underlying t=some (.pointer e))(hx:ev ρ x= .pointer pv)(hy:ev ρ y= .pointer none):Do P ⟨d,.binOp .neq t x y u,ty,pos,af,g⟩ ρ w (.bool (!pv.isNone)) w:=by
 have hp:P.underlying t=some (.pointer (P.pointee t)):=by rw [hu]; simp [Program.pointee,hu]
 unfold Do;simp only [execOp,hx,hy,eqGuard];have:=run_neq_pointer_nil w t pv hp;simp [this]
def PtF (r:Rp α)(F:Nat→Prop)(w:World)(pv:Option Addr):Option α→Prop
  | none=>pv=none
  | some x=> ∃b o cs,pv=some ⟨b,o,none⟩∧F b∧b<w.heap.size∧r.rd F w cs x∧Cells w ⟨b,o,none⟩ cs
theorem PtF.mono {F F':Nat→Prop}{w w':World}{pv:Option Addr}{o:Option α}(hs:Same F F' w w')(h:PtF r F w pv o):PtF r F' w' pv o:=by
  cases o with
  | none=>exact h
  | some x=>
    obtain ⟨b,o,cs,h1,h2,h3,h4,h5⟩:=h
    obtain ⟨q1,q2,q3⟩:=Cells.same hs h2 h3 h5
    exact ⟨b,o,cs,h1,q1,q2,r.mono hs h4,q3⟩
def Fz.pt (r:Rp α)(pv:Option Addr)(o:Option α):Fz:=⟨fun F w=>PtF r F w pv o,PtF.mono⟩
theorem PtF.isNone {pv:Option Addr}{o:Option α}(h:PtF r F w pv o):pv.isNone=o.isNone:=by
  cases o with
  | none=>obtain rfl:pv=none:=h; rfl
  | some x=>obtain ⟨b,o,cs,rfl,_⟩:=h; rfl
theorem PtF.isSome {pv:Option Addr}{o:Option α}(h:PtF r F w pv o):pv.isSome=o.isSome:=by
  cases o with
  | none=>obtain rfl:pv=none:=h; rfl
  | some x=>obtain ⟨b,o,cs,rfl,_⟩:=h; rfl
theorem slf_part (h : SlF r F w v xl) {lo hi : Int} (hs : sub' xl lo hi = some yl) : ∃ a c, v = .slice a xl.length c ∧ 0 ≤ lo ∧ lo ≤ hi ∧ hi ≤ xl.length ∧ xl.length ≤ c ∧ SlF r F w (sliced a lo.toNat hi.toNat c r.sz) yl := by
  obtain ⟨h0, h1, h2, rfl⟩ := aPg hs
  obtain ⟨xs, r1, r2, r3⟩ := h
  obtain ⟨hl, r2⟩ := r2
  rcases r2 with ⟨rfl, hn⟩ | ⟨a, cap, rfl, h3, h4, h5, hc⟩
  · have : xl = [] := List.eq_nil_of_length_eq_zero hn
    subst this
    simp at h2
    obtain rfl : hi = 0 := by omega
    obtain rfl : lo = 0 := by omega
    exact ⟨none, 0, rfl, by omega, by omega, by simp, by simp, SlF.nil⟩
  · refine ⟨some a, cap, rfl, h0, h1, h2, h3, (xs.drop (lo.toNat * r.sz)).take ((hi - lo).toNat * r.sz), tC _ (qI _ r1), ⟨?_, ?_⟩, ?_⟩
    · exact aI (tC _ (qI _ r1))
    · unfold sliced
      have hlen : ((xl.drop lo.toNat).take (hi - lo).toNat).length = hi.toNat - lo.toNat := by simp; omega
      rw [hlen]
      refine .inr ?_
      by_cases hq : cap = lo.toNat
      · rw [if_pos hq]
        refine ⟨a, cap - lo.toNat, rfl, by omega, by omega, fun h => by omega, ?_⟩
        have : (hi - lo).toNat = 0 := by omega
        rw [this]; intro i v hv; simp at hv
      · rw [if_neg hq]
        refine ⟨a.add (lo.toNat * r.sz), cap - lo.toNat, rfl, by omega, by omega, fun h => ?_, ?_⟩
        · have := h5 (by omega)
          unfold Addr.add; split
          · exact this
          · rfl
        · intro i v hv
          have e : (a.add (lo.toNat * r.sz)).add i = a.add (lo.toNat * r.sz + i) := by
            unfold Addr.add
            by_cases h6 : lo.toNat * r.sz = 0
            · rw [if_pos h6, h6, Nat.zero_add]
            · rw [if_neg h6]
              by_cases h7 : i = 0
              · subst h7; rw [if_pos rfl, if_neg (by omega)]; rfl
              · rw [if_neg h7, if_neg (by omega)]; simp [Nat.add_assoc]
          rw [e]
          refine hc _ _ ?_
          rw [List.getElem?_take] at hv
          split at hv
          · rwa [List.getElem?_drop] at hv
          · cases hv
    · intro hn b hb
      have hn' : 0 < xl.length := by simp at hn; omega
      have : b = a.block := by
        unfold sliced at hb
        simp only [aH] at hb
        split at hb
        · rename_i a2 l2 c2 e2
          simp at e2
          obtain ⟨e2, _⟩ := e2
          split at e2
          · cases e2; simpa using hb.symm
          · cases e2; simpa [Addr.add_block] using hb.symm
        · cases hb
      exact r3 hn' b (by rw [this]; rfl)
theorem qZ {kh:IntKind}{hi:Int}{hi':Operand}(hu:P.underlying t=some (.slice e))(hz:Sz P e r.sz)(h:SlF r F w v xl)(hx:ev ρ x=v)(hh:ev ρ hi'= .int kh hi)(hs:sub' xl 0 hi=some yl):
    ∃v',(∀w',Do P ⟨d,.slice t x none (some hi') none,ty,pos,af,g⟩ ρ w' v' w')∧SlF r F w v' yl:=by
 obtain ⟨a,c,e,h0,h1,h2,h3,h4⟩:=slf_part h hs;exact ⟨_,fun w'=>aQx hu hz (hx.trans e) hh h1 (by omega),h4⟩
theorem vV {c:Int}(hx:ev ρ x= .int k j)(hy:ev ρ y= .int k q)(h:max j q=c):Do P ⟨d,.call {callee:= .builtin .max,args:= #[x,y],argTypes:= #[t,u]},ty,pos,af,g⟩ ρ w (.int k c) w:=by
 subst h;have e:max j q=if j<q then q else j:=by split<;>omega
 unfold Do; simp [execOp,resolve,invoke,builtin,Builtin.max_,Builtin.max2,hx,hy,e]
theorem Do_min {c:Int}(hx:ev ρ x= .int k j)(hy:ev ρ y= .int k q)(h:min j q=c):Do P ⟨d,.call {callee:= .builtin .min,args:= #[x,y],argTypes:= #[t,u]},ty,pos,af,g⟩ ρ w (.int k c) w:=by
 subst h;have e:min j q=if q<j then q else j:=by split<;>omega
 unfold Do; simp [execOp,resolve,invoke,builtin,Builtin.min_,Builtin.min2,hx,hy,e]
theorem uM {c:Int}(hx:ev ρ x= .int k j)(hy:ev ρ y= .int k q)(h:aAe k j q=some c):Do P ⟨d,.binOp .quo t x y u,ty,pos,af,g⟩ ρ w (.int k c) w:=by
 obtain ⟨h1,h2⟩:=quo_some h; exact Do_tquo hx hy h1 h2
theorem nZ {c:Int}(hx:ev ρ x= .int k j)(hy:ev ρ y= .int k q)(h:mW j q=some c):Do P ⟨d,.binOp .rem t x y u,ty,pos,af,g⟩ ρ w (.int k c) w:=by
 obtain ⟨h1,h2⟩:=rem_some h; exact OB.yO (Do_trem hx hy h1) (by rw [h2])
theorem aVa {c:Int}(hx:ev ρ x= .int k j)(hy:ev ρ y= .int k' q)(h:shl' k j q=some c):Do P ⟨d,.binOp .shl t x y u,ty,pos,af,g⟩ ρ w (.int k c) w:=by
 obtain ⟨h1,h2,h3⟩:=shl_some h; exact Do_shl hx hy h1 h2 rfl h3
theorem mQ {c:Int}(hx:ev ρ x= .int k j)(hy:ev ρ y= .int k' q)(h:rY k j q=some c):Do P ⟨d,.binOp .shr t x y u,ty,pos,af,g⟩ ρ w (.int k c) w:=by
 obtain ⟨h1,h2,h3⟩:=shr_some h; exact OB.yO (Do_shr hx hy h1 h2 rfl) (by rw [h3])
theorem aKb {z:Value}{n:Nat}:madeCells #[z] (n * 1)=(List.replicate n z).toArray:=by
 unfold madeCells;apply Array.ext';apply List.ext_getElem;simp;intro i h1 h2; simp [Nat.mod_one]
theorem aJr {z:Value}{x:α}(h: ∀F w,r.rd F w [z] x)(F:Nat→Prop)(w:World): ∀n,rows r F w (List.replicate n z) (List.replicate n x)
  | 0=>rfl
  | n+1=>⟨[z],List.replicate n z,rfl,h F w,aJr h F w n⟩
theorem uO {bytes : Nat} {zv : Value} (hu : P.underlying t = some (.slice e)) (he : El P e r.sz bytes [zv]) (h1c : r.sz = 1) (hz : ∀ F w, r.rd F w [zv] a) (hx : ev ρ x = .int .i64 j) (hy : ev ρ y = .int .i64 j) (hm : make' bytes j a = some xl) (H : Hd O w0 w S l) :
    ∃ v w', Do P ⟨d, .makeSlice t x y, ty, pos, af, g⟩ ρ w v w' ∧ Hd O w0 w' S (l ++ [.own r v e xl]) := by
 obtain ⟨h0, h1, h2, rfl⟩ := aJm hm;have hj : (j.toNat : Int) = j := Int.toNat_of_nonneg h0;obtain ⟨v, w', h3, b, rfl, hA⟩ := Ex_ms (P := P) (ρ := ρ) (w := w) (d := d) (ty := ty) (pos := pos) (af := af) (g := g) (n := j.toNat) (cs := List.replicate j.toNat zv) hu he (by rw [hj]; exact hx) (by rw [hj]; exact hy) (by omega) (by omega) (by rw [h1c]; exact aKb);refine ⟨_, w', h3, H.add hA.only (fun hs => ⟨List.replicate j.toNat zv, aJr hz _ _ _, ?_⟩) (fun b' hb' => ?_) (rV _)⟩;refine ⟨by simp [h1c], .inr ⟨b, j.toNat, (List.replicate j.toNat zv).toArray, by simp, Nat.zero_le _, hA.blk, by simp, (by rw [maxLen_eq]; omega), by simp [h1c], ?_⟩⟩;rw [List.take_of_length_le]; simp [h1c];have : b' = b := by simpa [Th.blocks, ob, aH] using hb'
 subst this;exact ⟨Nat.le_of_eq hA.at_.symm, by rw [hA.size, hA.at_]; omega⟩
theorem dG {f:FuncId}{args:Array Value}{w:World}{O:List Nat}{items:List Th}(h:Calls P f args w fun e w'=>e= .returned v∧Hd O w w' [] items):Calls P f args w fun e w'=>e= .returned v∧Below w.heap.size w w':=
  h.mono fun _ _ ⟨h1,h2⟩=>⟨h1,h2.only.below⟩
theorem xR {γ β:Type}{K body:γ→Option β}{g:γ}{r:β}(e:K=body)(h:K g=some r):body g=some r:=by subst e; exact h
end
end Go.Lf
namespace Go.Lf
open Go.RowKit Go.OB

section
variable {P:Program} {ρ:Env} {w w0 w1:World} {d:Option Tmp} {x y z:Operand} {t u ty e:TypeId} {pos:String} {af:Array Edge} {g:Option (Nat×Bool)}
variable {v:Value} {b o i n c s m:Nat} {k k':IntKind} {cs xs vs:List Value} {T:TypeId} {O S:List Nat} {l:List Th} {α β:Type} {r:Rp α} {xl yl zl:List α} {a:α} {j q:Int} {F:Nat→Prop}

def aGl (P:Program)(t:TypeId)(i:Nat):Option (Nat×Option Nat):=
  match P.underlying t with
  | some (.struct fs)=>(fs[i]?).map fun f=>(f.offset,(P.info? f.type).map (·.size))
  | _=>none
theorem aIw (h : aGl P t i = some (m, some n)) (hn : n ≠ 0) (hx : ev ρ x = .pointer (some ⟨b, o, none⟩)) : Do P ⟨d, .fieldAddr t x i, ty, pos, af, g⟩ ρ w (.pointer (some ⟨b, o + m, none⟩)) w := by
 unfold aGl at h;split at h;rename_i fs hu;rw [Option.map_eq_some_iff] at h;obtain ⟨f, hf, he⟩ := h;have h1 : f.offset = m := congrArg Prod.fst he;have h2 : (P.info? f.type).map (·.size) = some n := congrArg Prod.snd he;exact aLr hu hf h2 hn hx (by rw [h1]);cases h
def allp (F:Nat→Prop)(w:World):List Fz→Prop
  | []=>True
  | p :: l=>p.p F w∧allp F w l
theorem aPa (O:List Nat)(l:List Th)(p:Fz):frees O (l++ [.fz p])=frees O l:=by
 funext b; unfold frees; rw [mZ]; simp [bks,Th.blocks]
theorem Hd.fzs: ∀{l:List Th} (ps:List Fz),Hd O w0 w S l→allp (frees O l) w ps→Hd O w0 w S (l++ps.map Th.fz)
  | l,[],H,_=>by simpa using H
  | l,p :: ps,H,h=>by
    have h1:=H.fz p h.1
    have h2:=Hd.fzs (l:=l++ [.fz p]) ps h1 (by rw [aPa]; exact h.2)
    simpa using h2
theorem pO {pv:Option Addr}{op:Option α}(h:PtF r F w pv op)(e:op=some a): ∃b o cs,pv=some ⟨b,o,none⟩∧F b∧b<w.heap.size∧r.rd F w cs a∧Cells w ⟨b,o,none⟩ cs:=by subst e; exact h
def aRf [DecidableEq β] (l:List α)(k:Bool→Option β):Option β:=
  match l with
  | []=>if k true=k false then k false else none
  | _ :: _=>k false
theorem aEb [DecidableEq β] {l : List α} {k : Bool → Option β} {r : β} (h : aRf l k = some r) {a : Option Addr} (q : a.isNone = true → l = []) : ∃ b, a.isNone = b ∧ k b = some r := by
  refine ⟨_, rfl, ?_⟩
  unfold aRf at h
  cases l with
  | nil =>
    simp only at h
    split at h
    · rename_i e
      cases a.isNone
      · exact h
      · rw [e]; exact h
    · cases h
  | cons x l =>
    cases ha : a.isNone with
    | false => exact h
    | true => cases q ha
theorem aHq (h:SlF r F w v xl): ∃a c,v= .slice a xl.length c∧(a.isNone=true→xl= []):=by
  obtain ⟨xs,h1,h2,h3⟩:=h
  rcases h2.2 with ⟨rfl,hn⟩ | ⟨a,cap,rfl,_⟩
  · exact ⟨none,0,by rw [hn],fun _=>List.eq_nil_of_length_eq_zero hn⟩
  · exact ⟨some a,cap,rfl,fun h=>by cases h⟩
theorem aAr {a:Option Addr}(hu:P.underlying t=some (.slice e))(hx:ev ρ x= .slice a n c)(hy:ev ρ y= .slice none 0 0):Do P ⟨d,.binOp .eql t x y u,ty,pos,af,g⟩ ρ w (.bool a.isNone) w:=by
 unfold Do;simp only [execOp,hx,hy,eqGuard];have:=Lib.run_eql_slice_nil (P:=P) w t e a n c 0 0 hu;simp [this]
theorem aRw {bytes : Nat} {zs : List Value} (hu : P.underlying t = some (.slice e)) (he : El P e r.sz bytes zs) (H : Hd O w0 w S l) :
    ∃ v w', Do P ⟨d, .buildSlice t 0 #[], ty, pos, af, g⟩ ρ w v w' ∧ Hd O w0 w' S (l ++ [.own r v e []]) := by
 obtain ⟨v, w', h1, b, rfl, hA⟩ := Ex_bs0 (P := P) (ρ := ρ) (w := w) (d := d) (ty := ty) (pos := pos) (af := af) (g := g) hu he;refine ⟨_, w', h1, H.add hA.only (fun hs => ⟨[], rfl, ?_⟩) (fun b' hb' => ?_) (rV _)⟩;exact ⟨by simp, .inr ⟨b, 0, #[], rfl, Nat.zero_le _, hA.blk, Nat.le_refl _, (by rw [maxLen_eq]; omega), by simp, by simp⟩⟩;have : b' = b := by simpa [Th.blocks, ob, aH] using hb'
 subst this;exact ⟨Nat.le_of_eq hA.at_.symm, by rw [hA.size, hA.at_]; omega⟩
theorem jO {cs vs : List Value} {i k : Nat} (h : i + vs.length ≤ cs.length) : (splice cs i vs)[k]? = if k < i then cs[k]? else if k < i + vs.length then vs[k - i]? else cs[k]? := by
 unfold splice;have h1 : (cs.take i).length = i := by simp; omega
 by_cases c1 : k < i;rw [if_pos c1, List.append_assoc, List.getElem?_append_left (by rw [h1]; exact c1), List.getElem?_take, if_pos c1];rw [if_neg c1];by_cases c2 : k < i + vs.length;rw [if_pos c2, List.append_assoc, List.getElem?_append_right (by rw [h1]; omega), h1, List.getElem?_append_left (by omega)];rw [if_neg c2, List.getElem?_append_right (by simp [h1]; omega), List.getElem?_drop];congr 1;simp [h1]; omega
theorem fun_only {α:Type}{r:Rp α}{w w':World}{v:Value}{b n c:Nat}{e:TypeId}{xl:List α}{cs:List Value}{T:TypeId}(hv:v= .slice (some ⟨b,0,none⟩) n c)(hW:Wr w w' b cs T):Only (Th.own r v e xl).blocks w w':=by
 subst hv; simpa [Th.blocks,ob,aH] using hW.only
theorem bQ {off cap : Nat} {a' : α} {mm : Nat} {u' : Value} (H : Hd O w0 w S l) (n : Nat) (hi : l[n]? = some (.own r v e xl)) (hv : v = .slice (some ⟨b, 0, none⟩) xl.length cap) (hc : Cells w ⟨b, 0 + j.toNat * r.sz, none⟩ cs) (hx : ev ρ x = .pointer (some ⟨b, 0 + j.toNat * r.sz + off, none⟩))
    (hs : Sz P t mm) (hm : vs.length = mm) (hy : ev ρ y = u') (hyc : u'.cells = vs.toArray) (h1 : ∀ v ∈ vs, v.oneCell' = true) (hset : set' xl j a' = some yl) (hfit : off + mm ≤ r.sz) (hcl : cs.length = r.sz) (hrd : r.rd (frees O l) w (splice cs off vs) a') :
    ∃ w', DoU P ⟨none, .store t x y, ty, pos, af, g⟩ ρ w w' ∧ Hd O w0 w' S (l.set n (.own r v e yl)) := by
  obtain ⟨j0, j1, rfl⟩ := aOx hset
  rw [Nat.zero_add] at hc
  obtain ⟨xs, r1, r2⟩ := H.item hi
  have hxl := aI r1
  have hjs : j.toNat * r.sz + r.sz ≤ xs.length := by
    rw [hxl, ← Nat.succ_mul]; exact Nat.mul_le_mul_right _ (by omega)
  rcases r2.2 with ⟨hv0, _⟩ | ⟨g, cap', cur, hv1, hb0, hg, hnc, hcm, hcs, htake⟩
  · rw [hv] at hv0; cases hv0
  · rw [hv] at hv1
    cases hv1
    have hb : Blk w b cur.toList e := by unfold Blk; simpa using hg
    have hcur : xs.length ≤ cur.toList.length := by rw [← htake]; simp; omega
    obtain ⟨w', hd, hW⟩ := nI (P := P) (ρ := ρ) (w := w) (ty := ty) (pos := pos) (af := af) (g := _) hs hm hx (by rw [hy, hyc]) h1 hb (by omega)
    have hget : ∀ k, k < r.sz → cs[k]? = xs[j.toNat * r.sz + k]? := by
      intro k hk
      have hk' : k < cs.length := by omega
      have h2 := hc k cs[k] (List.getElem?_eq_getElem hk')
      rw [Addr.add_none, cell_of_row w b _ cur e (0, 0) hg] at h2
      rw [List.getElem?_eq_getElem hk', ← htake, List.getElem?_take, if_pos (by omega)]
      simpa using h2.symm
    refine ⟨w', hd, H.turn hi (fun_only hv hW) (fun hs => ⟨splice xs (j.toNat * r.sz) (splice cs off vs), cO hs (aMx r1 (by omega) hrd), ?_⟩) (fun c hcb => ?_) (rV v)⟩
    · have hlen : (splice xs (j.toNat * r.sz) (splice cs off vs)).length = xs.length := bP (by rw [bP (by omega)]; omega)
      refine ⟨by rw [hlen, hxl]; simp, .inr ⟨b, cap, (splice cur.toList (0 + j.toNat * r.sz + off) vs).toArray, by rw [hv]; simp, Nat.zero_le _, hW.blk, by simpa using hnc, hcm, ?_, ?_⟩⟩
      · have := bP (cs := cur.toList) (vs := vs) (i := 0 + j.toNat * r.sz + off) (by omega)
        simp only [List.size_toArray]
        rw [this]; simpa using hcs
      · apply List.ext_getElem?
        intro k
        rw [List.getElem?_take]
        simp only [List.length_set]
        have A := jO (cs := xs) (vs := splice cs off vs) (i := j.toNat * r.sz) (k := k) (by rw [bP (by omega)]; omega)
        have B := jO (cs := cur.toList) (vs := vs) (i := 0 + j.toNat * r.sz + off) (k := k) (by omega)
        rw [bP (by omega)] at A
        rw [A, B]
        have hx2 : ∀ k, xs[k]? = if k < xl.length * r.sz then cur.toList[k]? else none := by
          intro k; rw [← htake, List.getElem?_take]
        by_cases c0 : k < xl.length * r.sz
        · rw [if_pos c0]
          by_cases c1 : k < j.toNat * r.sz
          · rw [if_pos (by omega), if_pos c1, hx2, if_pos c0]
          · rw [if_neg c1]
            by_cases c2 : k < j.toNat * r.sz + cs.length
            · rw [if_pos c2, jO (by omega)]
              by_cases c3 : k - j.toNat * r.sz < off
              · rw [if_pos (by omega), if_pos c3, hget _ (by omega), hx2, if_pos (by omega)]
                congr 1; omega
              · rw [if_neg (by omega), if_neg c3]
                by_cases c4 : k - j.toNat * r.sz < off + vs.length
                · rw [if_pos (by omega), if_pos c4]; congr 1; omega
                · rw [if_neg (by omega), if_neg c4, hget _ (by omega), hx2, if_pos (by omega)]
                  congr 1; omega
            · rw [if_neg c2, if_neg (by omega), if_neg (by omega), hx2, if_pos c0]
        · rw [if_neg c0, if_neg (by omega), if_neg (by omega), hx2, if_neg c0]
    · refine ⟨.inl hcb, ?_⟩
      have : c = b := by rw [hv] at hcb; simpa [Th.blocks, ob, aH] using hcb
      subst this
      exact hW.blk.lt
end
end Go.Lf
namespace Go.Lf
open Go.RowKit Go.OB
theorem xI {ρ : Env} {s len : Nat} {zs vs cs : List Value} {parts : List (Nat × Operand)} (hs : 0 < s) (hi : parts.map Prod.fst = List.range len) (hv : parts.map (fun p => ev ρ p.2) = vs) (h1 : aSr s vs) (hc : vs.flatMap (fun v => v.cells.toList) = cs) :
    rQ s len zs (parts.map fun p => (p.1, ev ρ p.2)) = some cs := by
  have hl : vs.length = len := by rw [← hv, List.length_map]; have := congrArg List.length hi; simpa using this
  have e : (parts.map fun p => (p.1, ev ρ p.2)) = (vs.zipIdx 0).map fun x => (x.2, x.1) := by
    apply List.ext_getElem?
    intro i
    by_cases hi' : i < len
    · have hp : i < parts.length := by have := congrArg List.length hi; simp at this; omega
      have h2 : (parts.map Prod.fst)[i]? = (List.range len)[i]? := by rw [hi]
      have h3 : (parts.map fun p => ev ρ p.2)[i]? = vs[i]? := by rw [hv]
      simp only [List.getElem?_map, List.getElem?_eq_getElem hp, Option.map_some] at h2 h3 ⊢
      rw [List.getElem?_range hi'] at h2
      rw [List.getElem?_zipIdx, ← h3]
      simp at h2
      simp [h2]
    · have hp : parts.length ≤ i := by have := congrArg List.length hi; simp at this; omega
      rw [List.getElem?_eq_none (by simpa using hp), List.getElem?_eq_none (by simp; omega)]
  rw [e, ← hc]
  exact aNu hs (aJs h1) hl
end Go.Lf
namespace Go.Lf
open Go.RowKit Go.OB
section
variable {P:Program} {ρ:Env} {w w0 w1:World} {d:Option Tmp} {x y z:Operand} {t u ty e ts:TypeId} {pos:String} {af:Array Edge} {g:Option (Nat×Bool)}
variable {v:Value} {b o i n c:Nat} {cs xs vs:List Value} {T:TypeId} {O S:List Nat} {l:List Th} {xl yl zl:List Int} {F:Nat→Prop}
def nums (s:Str):List Int:=s.map fun b=>(b.toNat:Int)
def str' (l:List Int):Str:=l.map fun z=>UInt8.ofNat z.toNat
def Z8 (P:Program)(e:TypeId):Prop:=(P.info? e).map (fun i=>(i.zero,i.size,i.bytes))=some (some (.int .u8 0),1,1)
theorem Z8.get (h:Z8 P e): ∃i,P.info? e=some i∧i.zero=some (.int .u8 0)∧i.size=1∧i.bytes=1:=by
  unfold Z8 at h
  cases hi:P.info? e with
  | none=>rw [hi] at h; cases h
  | some i=>
    rw [hi] at h
    have:=Option.some.inj h
    simp only [Prod.mk.injEq] at this
    exact ⟨i,rfl,this.1,this.2.1,this.2.2⟩
theorem nums_cells (s:Str):Lib.strCells (bs s)=ints .u8 (nums s):=by simp [Lib.strCells,bs,ints,nums]
theorem kX (s:Str):(nums s).length=s.length:=by simp [nums]
theorem Ex_appstr {s : ByteArray} (hu : P.underlying t = some (.slice e)) (hs : P.underlying ts = some .string) (he : Z8 P e) (hx : ev ρ x = v) (hy : ev ρ y = .string s) (hown : w.ownsRow 0 e 1 v n xs)
    (h63 : n + s.size ≤ maxLen) (hby : n + s.size ≤ 140737488355328) :
    ∃ v' w', Do P ⟨d, .call { callee := .builtin .append, args := #[x, y], argTypes := #[t, ts] }, ty, pos, af, g⟩ ρ w v' w' ∧ Ap w w' v v' e 1 (n + s.size) (xs ++ Lib.strCells s) := by
  obtain ⟨i, i1, i2, i3, i4⟩ := he.get
  have hd : ∀ v' w', (Builtin.append_ #[t, ts] ty #[v, .string s]).run P w = .ok v' w' → Do P ⟨d, .call { callee := .builtin .append, args := #[x, y], argTypes := #[t, ts] }, ty, pos, af, g⟩ ρ w v' w' := by
    intro v' w' h
    unfold Do; simp [execOp, resolve, invoke, builtin, hx, hy, h]
  obtain ⟨v', w', hrun, ho, hg, _⟩ := Lib.run_append_own_string (P := P) w 0 t ts ty e i hu hs i1 i2 i3 i4 v n xs hown s h63 hby (Nat.zero_le _)
  refine ⟨v', w', hd _ _ hrun, ho, ⟨hg.os, hg.tape, hg.output, hg.size, fun k hk hn => hg.block k hk (fun e => hn (by rw [kK, ← vY, e]))⟩, ?_⟩
  intro b' hb'
  rcases hown.2 with ⟨rfl, rfl⟩ | ⟨g, cap', cur, rfl, hbg, hgg, hnc, hcm, hcs, htake⟩
  · obtain ⟨v2, w2, hrun2, ho2, _⟩ := Lib.run_append_own_string (P := P) w w.heap.size t ts ty e i hu hs i1 i2 i3 i4 (.slice none 0 0) 0 xs ⟨hown.1, .inl ⟨rfl, rfl⟩⟩ s h63 hby (Nat.le_refl _)
    rw [hrun] at hrun2
    cases hrun2
    exact .inr (rF ho2 b' (kK.2 hb')).1
  · by_cases hroom : n + s.size ≤ cap'
    · have hr2 := Lib.run_append_room_string (P := P) w t ts ty e i hu hs i1 i3 g n cap' cur hgg s hroom (by omega)
      rw [hrun] at hr2
      cases hr2
      exact .inl hb'
    · have holds : ∀ j u, xs[j]? = some u → w.cell? ((⟨g, 0, none⟩ : Addr).add j) = some u := hown.cells (g := g) rfl
      have hr2 := Lib.run_append_grow_string (P := P) w t ts ty e i (.int .u8 0) hu hs i1 i2 ⟨g, 0, none⟩ n cap' xs (by rw [i3]; exact hown.1) holds s (by omega) (by unfold maxLen at h63; omega) (by rw [i4]; exact growslice_fits (by omega) (by omega))
      rw [hrun] at hr2
      cases hr2
      refine .inr ?_
      have : b' = w.heap.size := by simpa [aH, eq_comm] using hb'
      omega
theorem wU {s:Str}(H:Hd O w0 w S l)(hi:l[i]? =some (.own (Rp.int .u8) v e xl))(hu:P.underlying t=some (.slice e))(hs:P.underlying ts=some .string)(he:Z8 P e)(hx:ev ρ x=v)(hy:ev ρ y= .string (bs s))
    (ha:app' 1 xl (nums s)=some zl):
    ∃v' w',Do P ⟨d,.call {callee:= .builtin .append,args:= #[x,y],argTypes:= #[t,ts]},ty,pos,af,g⟩ ρ w v' w'∧Hd O w0 w' S (l.set i (.own (Rp.int .u8) v' e zl)):=by
 obtain ⟨h1,h2,rfl⟩:=aCq ha;obtain ⟨xs,r1,r2⟩:=H.item hi;rw [kX] at h1 h2;obtain ⟨v',w',hd,hA⟩:=Ex_appstr (P:=P) (ρ:=ρ) (w:=w) (d:=d) (ty:=ty) (pos:=pos) (af:=af) (g:=g) hu hs he hx hy r2 (by rw [aBw]; exact h1) (by rw [aBw]; omega);refine ⟨v',w',hd,H.turn hi hA.only (fun hs=>?_) (fun b hb=>⟨(hA.blk b (kK.1 hb)).imp kK.2 id,(rF hA.own b hb).2⟩) (rV v')⟩;refine ⟨xs++ints .u8 (nums s),cO hs (mG r1 (jV.2 rfl)),?_⟩;have q:=hA.own;rw [nums_cells] at q;rw [List.length_append,kX,← aBw (s:=s)];exact q
theorem aGj (hs : P.underlying t = some (.slice e)) (he : P.underlying e = some (.int .u8)) (hd : P.underlying u = some .string) (hx : ev ρ x = v) (hr : Sr (Rp.int .u8) F w v xl) :
    Do P ⟨d, .convert t u x, ty, pos, af, g⟩ ρ w (.string (bs (str' xl))) w := by
  obtain ⟨xs, r1, hl, hr⟩ := hr
  have r1 := jV.1 r1
  subst r1
  have e0 : strOfNums xl = bs (str' xl) := by simp [strOfNums, bs, str']
  have : (convert t u v).run P w = .ok (.string (bs (str' xl))) w := by
    rw [← e0]
    rcases hr with ⟨rfl, h0⟩ | ⟨⟨b, o, sp⟩, cap, rfl, h1, h2, h3, hc⟩
    · have : xl = [] := List.eq_nil_of_length_eq_zero h0
      subst this
      exact run_convert_bytes_nil w t e hs he 0 0 u hd
    · rcases Nat.eq_zero_or_pos xl.length with h0 | h0
      · have : xl = [] := List.eq_nil_of_length_eq_zero h0
        subst this
        exact aHe w t e hs he (some ⟨b, o, sp⟩) cap u hd
      have h3 : sp = none := h3 h0
      subst h3
      exact run_convert_bytes_arg w t e hs he b o xl.length cap xl rfl (fun i hi => by
        have := hc.get (i := i) (v := .int .u8 (xl.getD i 0)) (by simp [ints, List.getD, hi])
        exact this) u hd
  unfold Do
  simp [execOp, hx, this]
end
end Go.Lf
