/- Walks: what each function computes, for every argument; no condition but those that stand in the statements. -/
import Derived.Test.YthllgjnlmjpinaaGreatDoorLfR
import Derived.Defers
import Derived.Recover
import Derived.MapKept
import Derived.Test.YthllgjnlmjpinaaGreatDoorObB
namespace Go.Lf
open Go.RowKit Go.OB
structure aCy (N:Nat)(a:Act)(ρ:Env)(ds:List Deferred):Prop where
  size:a.tmps.size=N
  dfr:a.defers=ds
  get: ∀i,a.tmps.getD i undef=ρ i
theorem aCy.fits {N:Nat}{a:Act}{ρ:Env}{ds:List Deferred}(h:aCy N a ρ ds):Fits N {a with defers:=[]} ρ:=⟨h.size,rfl,h.get⟩
theorem aCy.eval {N:Nat}{a:Act}{ρ:Env}{ds:List Deferred}(h:aCy N a ρ ds):a.eval=ev ρ:=by
 have:=h.fits.eval;rw [← this]; funext x; cases x<;>rfl
theorem aCy.wanted {N:Nat}{a:Act}{ρ:Env}{ds:List Deferred}(h:aCy N a ρ ds)(ops:Array Oper)(o:Oper):Region.wanted o (yielded ops a.tmps)=dA N ops ρ o:=h.fits.wanted ops o
theorem aCy.put {N:Nat}{a:Act}{ρ:Env}{ds:List Deferred}(h:aCy N a ρ ds){d:Option Tmp}(hd:aOb N d=true)(v:Value):aCy N (a.put d v) (updo ρ d v) ds:=by
  have q:=h.fits.put hd v
  cases d with
  | none=>exact h
  | some d=>exact ⟨q.size,h.dfr,q.get⟩
end Go.Lf
namespace Go.Lf
open Go.RowKit Go.OB
section
variable {P:Program} {ops:Array Oper} {a:Act} {w:World}
theorem upon_q {o:Oper}{K K':Act→World→Prop}{Q Q':Exit→Act→World→Prop}(hk: ∀a w,K a w→K' a w)(hq: ∀e a w,e≠ .normal→Q e a w→Q' e a w)(h:o.wp P a w K Q):o.wp P a w K' Q':=by
  unfold Oper.wp Oper.upon at *
  split at h<;>first
    | exact hk _ _ h
    | exact hq _ _ _ (by simp) h
    | exact h.elim
    | (refine Calls.mono h fun e w' hr=>?_
       cases e with
       | returned v=>exact hk _ _ hr
       | panicked ch=>exact hq _ _ _ (by simp) hr
       | outgrown=>obtain ⟨a0,w0,h0⟩:=hr; exact ⟨a0,w0,hq _ _ _ (by simp) h0⟩)
    | (intro fr cs; obtain ⟨v,w'',hR,hs⟩:=h fr cs; exact ⟨v,w'',hk _ _ hR,hs⟩)
theorem aAx {Q : Exit → Act → World → Prop} : ∀ (l : List Oper) (k : Nat) (a : Act) (w : World), wpList P ops (fun e a w => match e with | .normal => wpList P ops Q (l.drop k) a w | e => Q e a w) (l.take k) a w → wpList P ops Q l a w
  | l, 0, a, w, h => by simpa [wpList] using h
  | [], k + 1, a, w, h => by simpa [wpList] using h
  | o :: l, k + 1, a, w, h => by
    rw [List.take_succ_cons, wpList] at h
    rw [wpList]
    simp only [List.drop_succ_cons] at h
    split at h
    · rename_i hw
      rw [if_pos hw]
      rcases h with h | ⟨h1, a0, w0, h2⟩
      · exact .inl (upon_q (fun a w h => aAx l k a w h) (fun e a w he h => by cases e <;> first | exact h | exact absurd rfl he) h)
      · exact .inr ⟨h1, a0, w0, h2⟩
    · rename_i hw
      rw [if_neg hw]
      exact aAx l k _ _ h
theorem dE {N : Nat} {Q : Exit → Env → World → Prop} {ρ : Env} {l : List Oper} (k : Nat) (W : List Nat) (S : List (Nat × Value)) (I : World → Prop)
    (h : RL P N ops (sO (fun ρ' w' => Fr W ρ ρ' ∧ Sl ρ' S ∧ I w') Q) (l.take k) ρ w) (kk : ∀ ρ1 w1, I w1 → RL P N ops Q (l.drop k) (over ρ ρ1 W S) w1) : RL P N ops Q l ρ w := by
  intro a ha
  refine aAx l k a w ?_
  have mono : ∀ (l1 : List Oper) (a : Act) (w : World), wpList P ops (uP N (sO (fun ρ' w' => Fr W ρ ρ' ∧ Sl ρ' S ∧ I w') Q)) l1 a w → wpList P ops (fun e a w => match e with | .normal => wpList P ops (uP N Q) (l.drop k) a w | e => uP N Q e a w) l1 a w := by
    have nrm : ∀ a w, uP N (sO (fun ρ' w' => Fr W ρ ρ' ∧ Sl ρ' S ∧ I w') Q) .normal a w → wpList P ops (uP N Q) (l.drop k) a w := by
      rintro a w ⟨ρ', hf, h1, h2, h3⟩
      have q := kk ρ' w h3
      rw [aKp h1 h2] at q
      exact q a hf
    intro l1
    induction l1 with
    | nil => intro a w h; rw [wpList] at h ⊢; exact nrm a w h
    | cons o l1 ih =>
      intro a w h
      rw [wpList] at h ⊢
      split at h
      · rename_i hw
        rw [if_pos hw]
        rcases h with h | ⟨h1, a0, w0, h2⟩
        · exact .inl (upon_q ih (fun e a w he h => by cases e <;> first | exact h | exact absurd rfl he) h)
        · exact .inr ⟨h1, a0, w0, h2⟩
      · rename_i hw
        rw [if_neg hw]
        exact ih _ _ h
  exact mono _ a w (h a ha)
end
theorem meet {W:List Nat}{ρ ρ':Env}{B:Prop}(h:B)(hf:Fr W ρ ρ':=by repeat' (first | with_reducible exact aFy | refine aQj rfl ?_ | refine aLz rfl rfl ?_)):Fr W ρ ρ'∧B:=⟨hf,h⟩
theorem gI {α:Type}{a b:α}(h:some a=some b):a=b:=Option.some.inj h
theorem mV {P:Program}{o:Oper}{ρ:Env}{w w':World}{b c:Bool}(h:Do P o ρ w (.bool b) w')(e:b=c):Do P o ρ w (.bool c) w':=e ▸ h
section
variable {P:Program} {N:Nat} {ops:Array Oper} {Q:Exit→Env→World→Prop} {rest:List Oper} {ρ:Env} {w w':World} {v:Value} {d:Nat} {op:Op} {ty:TypeId} {pos:String} {af:Array Edge} {g:Option (Nat×Bool)}
theorem zH (h:Do P ⟨some d,op,ty,pos,af,g⟩ ρ w v w')(k:RL P N ops Q rest (upd ρ d v) w')(hw:dA N ops ρ ⟨some d,op,ty,pos,af,g⟩=true:=by exact rfl)(hd:Nat.blt d N=true:=by exact rfl):RL P N ops Q (⟨some d,op,ty,pos,af,g⟩ :: rest) ρ w:=wI hw hd h k
theorem zU (k:RL P N ops Q rest (upd ρ d undef) w)(hw:dA N ops ρ ⟨some d,op,ty,pos,af,g⟩=false:=by exact rfl)(hd:Nat.blt d N=true:=by exact rfl):RL P N ops Q (⟨some d,op,ty,pos,af,g⟩ :: rest) ρ w:=RL_off hw hd k
theorem zF {x:Operand}(v:Value)(k:RL P N ops Q rest (upd ρ d v) w)(h:ev ρ x=v:=by exact rfl)(hw:dA N ops ρ ⟨some d,.move x,ty,pos,af,g⟩=true:=by exact rfl)(hd:Nat.blt d N=true:=by exact rfl):RL P N ops Q (⟨some d,.move x,ty,pos,af,g⟩ :: rest) ρ w:=wI hw hd (bG h) k
theorem zG {x:Operand}(v:Value)(k:RL P N ops Q rest (upd ρ d v) w)(h:ev ρ x=v:=by exact rfl)(hw:dA N ops ρ ⟨some d,.assign x,ty,pos,af,g⟩=true:=by exact rfl)(hd:Nat.blt d N=true:=by exact rfl):RL P N ops Q (⟨some d,.assign x,ty,pos,af,g⟩ :: rest) ρ w:=wI hw hd (yZ h) k
end
end Go.Lf
namespace Go.Lf
open Go.RowKit Go.OB
structure Ky (κ:Type) where
  f:κ→Value
  t:TypeDesc
  key: ∀a,MapKept.IsKey t (f a)
  dec:DecidableEq κ
  now: ∀a b,Instr.sameNow t (f a) (f b)=some (@decide (a=b) (dec a b))
def Ky.int (k:IntKind):Ky Int:=⟨fun a=> .int k a,.int k,fun _=>rfl,inferInstance,fun a b=>by simp [Instr.sameNow,BEq.beq]⟩
def Ky.str:Ky Str:=⟨fun a=> .string (bs a),.string,fun _=>trivial,inferInstance,fun a b=>by
  show some (bs a==bs b)=some (decide (a=b))
  have e:(bs a==bs b)=(a.toArray==b.toArray):=rfl
  rw [e]
  congr 1
  rw [Bool.eq_iff_iff,beq_iff_eq,decide_eq_true_eq]
  exact ⟨fun h=>by simpa using h,fun h=>by rw [h]⟩⟩
section
variable {κ ν:Type} (K:Ky κ)
def jX [DecidableEq κ] (l:List (κ×ν))(k:κ)(z:ν):ν:=match l.find? fun p=>decide (p.1=k) with
  | some p=>p.2
  | none=>z
def fG (K:Ky κ)(g:ν→Value)(l:List (κ×ν)):List (Value×Value):=l.map fun p=>(K.f p.1,g p.2)
theorem nJ [inst : DecidableEq κ] (g : ν → Value) (k : κ) : ∀ (es : List MapEntry) (l : List (κ × ν)) (i : Nat), es.map (fun e => (e.key, e.val)) = fG K g l →
    (l.any (fun p => decide (p.1 = k)) = false → Instr.findNow K.t (K.f k) es i = some none) ∧ (∀ p, l.find? (fun p => decide (p.1 = k)) = some p → ∃ j, Instr.findNow K.t (K.f k) es i = some (some (j, g p.2)))
  | [], [], i, _ => ⟨fun _ => rfl, fun p h => by simp at h⟩
  | [], _ :: _, i, h => by simp [fG] at h
  | _ :: _, [], i, h => by simp [fG] at h
  | e :: es, q :: l, i, h => by
    simp only [List.map_cons, fG, List.cons.injEq, Prod.mk.injEq] at h
    obtain ⟨⟨h1, h2⟩, h3⟩ := h
    have ih := nJ g k es l (i + 1) h3
    have hn := K.now k q.1
    have hd : (@decide (k = q.1) (K.dec k q.1)) = decide (q.1 = k) := by
      by_cases c : q.1 = k
      · simp [c]
      · have c2 : ¬ k = q.1 := fun h => c h.symm
        simp [c, c2]
    rw [hd] at hn
    have e1 : Instr.findNow K.t (K.f k) (e :: es) i = if decide (q.1 = k) = true then some (some (i, e.val)) else Instr.findNow K.t (K.f k) es (i + 1) := by
      rw [Instr.findNow, h1, hn]
      cases decide (q.1 = k) <;> rfl
    rw [e1]
    constructor
    · intro ha
      rw [List.any_cons, Bool.or_eq_false_iff] at ha
      rw [ha.1]
      exact ih.1 ha.2
    · intro p hp
      rw [List.find?_cons] at hp
      cases c : decide (q.1 = k) with
      | true => rw [c] at hp; obtain rfl := Option.some.inj hp; exact ⟨i, by simp [h2]⟩
      | false => rw [c] at hp; obtain ⟨j, hj⟩ := ih.2 p hp; exact ⟨j, by simpa using hj⟩
end
section
variable {P:Program} {ρ:Env} {w w0:World} {d:Option Tmp} {x y z:Operand} {t kt et ty:TypeId} {pos:String} {af:Array Edge} {g:Option (Nat×Bool)} {O S:List Nat} {l:List Th} {i b:Nat} {κ ν:Type} {K:Ky κ} {G:ν→Value} {m m':List (κ×ν)} {k:κ} {v:ν}
theorem aHc (H : Hd O w0 w S l) : ∃ v w', Do P ⟨d, .makeMap t none, ty, pos, af, g⟩ ρ w v w' ∧ ∃ b, v = .map (some b) ∧ Hd O w0 w' S (l ++ [.mp b []]) := by
 refine ⟨.map (some w.heap.size), w.alloc (.map #[] 0), ?_, w.heap.size, rfl, ?_⟩;unfold Do;simp [execOp, run_makeMap];refine H.add (Only.of_below (MxM.sees_alloc w _)) (fun _ => ⟨#[], 0, ?_, rfl⟩) (fun b hb => ?_) (by simp [Th.blocks]);show (w.heap.push _)[w.heap.size]? = _;simp;obtain rfl : b = w.heap.size := by simpa [Th.blocks] using hb
 refine ⟨Nat.le_refl _, ?_⟩;show _ < (w.heap.push _).size;simp
theorem sU [DecidableEq κ] {F:Nat→Prop}{zv:ν}(h:Th.holds F w (.mp b (fG K G m)))(hu:P.underlying t=some (.map kt et))(hk:P.underlying kt=some K.t)(hx:ev ρ x= .map (some b))(hy:ev ρ y=K.f k)(hz:(zeroValue et).run P w= .ok (G zv) w):
    Do P ⟨d,.lookup t x y false,ty,pos,af,g⟩ ρ w (G (jX m k zv)) w:=by
  obtain ⟨es,c,h1,h2⟩:=h
  unfold Do
  have q:(Instr.lookup t (.map (some b)) (K.f k) false).run P w= .ok (G (jX m k zv)) w:=by
    have hc: ∀e,(Instr.checkKey e 10000 kt (K.f k)).run P w= .ok () w:=fun e=>MapKept.run_checkKey hk (K.key k) e 9999
    unfold jX
    cases hf:m.find? fun p=>decide (p.1=k) with
    | none=>
      have ha:m.any (fun p=>decide (p.1=k))=false:=by
        rw [List.find?_eq_none] at hf
        rw [List.any_eq_false]
        intro p hp; exact hf p hp
      have hn:=(nJ K G k es.toList m 0 h2).1 ha
      simp [Instr.lookup,run_underlying hu,MapKept.run_getObj_map h1,hc,MapKept.run_findKey hk hn,hz,Result.andThen]
    | some p=>
      obtain ⟨j,hn⟩:=(nJ K G k es.toList m 0 h2).2 p hf
      simp [Instr.lookup,run_underlying hu,MapKept.run_getObj_map h1,hc,MapKept.run_findKey hk hn,Result.andThen]
  simp [execOp,hx,hy,q]
end
end Go.Lf
namespace Go.Lf
open Go.RowKit Go.OB
def Fz.mp (b:Nat)(m:List (Value×Value)):Fz:=⟨fun F w=>F b∧b<w.heap.size∧ ∃(es:Array MapEntry) (c:Nat),w.heap[b]? =some (.map es c)∧es.toList.map (fun e=>(e.key,e.val))=m,by
  rintro F F' w w' hs ⟨h1,h2,es,c,h3,h4⟩
  have p:=hs b h1 h2
  exact ⟨p.1,(Array.getElem?_eq_some_iff.1 (p.2.trans h3)).1,es,c,p.2.trans h3,h4⟩⟩
section
variable {P:Program} {ρ:Env} {w w0:World} {d:Option Tmp} {x y z:Operand} {t kt et ty u:TypeId} {pos:String} {af:Array Edge} {g:Option (Nat×Bool)} {O S:List Nat} {l:List Th} {i b:Nat} {κ ν:Type} {K:Ky κ} {G:ν→Value} {m m':List (κ×ν)} {k:κ} {v:ν}
def slt (s t:Str):Bool:=Go.Op.bytesLess s t
end
end Go.Lf
namespace Go.Lf
open Go.RowKit Go.OB
section own
variable {w w':World} {e s n:Nat} {v:Value} {xs:List Value}
def OwO (w:World)(e:TypeId)(s:Nat)(v:Value)(n:Nat)(xs:List Value):Prop:=
  xs.length=n * s∧((v= .slice none 0 0∧n=0)∨ ∃g o cap cur,v= .slice (some ⟨g,o,none⟩) n cap∧Blk w g cur e∧n≤cap∧cap≤maxLen∧o+cap * s≤cur.length∧(cur.drop o).take (n * s)=xs)
theorem OwO.of_owns (h:w.ownsRow 0 e s v n xs):OwO w e s v n xs:=by
 refine ⟨h.1,h.2.imp id ?_⟩;rintro ⟨g,cap,cur,h1,h2,h3,h4,h5,h6,h7⟩;refine ⟨g,0,cap,cur.toList,h1,by unfold Blk; simpa using h3,h4,h5,?_,by simpa using h7⟩;rw [Nat.zero_add,← h6]; simp
theorem OwO.same (h:OwO w e s v n xs)(hb: ∀b ∈ ob v,w'.heap[b]? =w.heap[b]?):OwO w' e s v n xs:=by
 refine ⟨h.1,h.2.imp id ?_⟩;rintro ⟨g,o,cap,cur,rfl,h2,h3⟩;exact ⟨g,o,cap,cur,rfl,jC h2 (hb g (by simp [ob,aH])),h3⟩
theorem OwO.slr (h:OwO w e s v n xs):SlR w v s n xs:=by
 refine ⟨h.1,h.2.imp id ?_⟩;rintro ⟨g,o,cap,cur,rfl,h2,h3,h4,h5,h6⟩;exact ⟨⟨g,o,none⟩,cap,rfl,h3,h4,fun _=>rfl,h2.part h6⟩
theorem OwO.one (h:OwO w e s v n xs):v.oneCell'=true:=SlR.one h.slr
theorem OwO.lt (h : OwO w e s v n xs) : ∀ b ∈ ob v, b < w.heap.size := by
  rcases h.2 with ⟨rfl, _⟩ | ⟨g, o, cap, cur, rfl, h2, _⟩
  · simp [ob, aH]
  · intro b hb
    obtain rfl : b = g := by simpa [ob, aH] using hb
    exact h2.lt
theorem OwO.nil:OwO w e s (.slice none 0 0) 0 []:=⟨by simp,.inl ⟨rfl,rfl⟩⟩
end own
section rt
variable {α β:Type} {F F':Nat→Prop} {w w':World}
def Rt.of (r:Rp α):Rt α:=⟨r.sz,fun F w cs bs x=>bs= []∧r.rd F w cs x,fun h=>r.len h.2,fun h=>r.one h.2,fun hs _ h=>⟨h.1,r.mono hs h.2⟩⟩
def Rt.pair (a:Rt α)(b:Rt β):Rt (α×β):=
  ⟨a.sz+b.sz,fun F w cs bs x=> ∃c d b1 b2,cs=c++d∧bs=b1++b2∧a.rd F w c b1 x.1∧b.rd F w d b2 x.2,
   fun ⟨c,d,b1,b2,e,e2,h1,h2⟩=>by subst e; simp [a.len h1,b.len h2],
   fun ⟨c,d,b1,b2,e,e2,h1,h2⟩=>by subst e; intro v hv; exact (List.mem_append.1 hv).elim (a.one h1 v) (b.one h2 v),
   fun hs hb ⟨c,d,b1,b2,e,e2,h1,h2⟩=>⟨c,d,b1,b2,e,e2,a.mono hs (fun x hx=>hb x (by rw [e2]; exact List.mem_append_left _ hx)) h1,b.mono hs (fun x hx=>hb x (by rw [e2]; exact List.mem_append_right _ hx)) h2⟩⟩
def Rt.iso (a:Rt α)(f:β→α):Rt β:=⟨a.sz,fun F w cs bs x=>a.rd F w cs bs (f x),fun h=>a.len h,fun h=>a.one h,fun hs hb h=>a.mono hs hb h⟩
def elH (r:Rt α)(F:Nat→Prop)(w:World)(c:List Value)(b:List Nat)(x:α):Option (List Value)→Prop
  | none=>r.rd F w c b x
  | some c0=>c=c0∧b= []∧c.length=r.sz∧ ∀v ∈ c,v.oneCell'=true
abbrev Hol:=List (Nat×List Value)
def kM (r:Rt α)(F:Nat→Prop)(w:World)(D:Hol):Nat→List Value→List Nat→List α→Prop
  | _,cs,bs,[]=>cs= []∧bs= []
  | i,cs,bs,x :: l=> ∃c d b1 b2,cs=c++d∧bs=b1++b2∧elH r F w c b1 x (D.lookup i)∧kM r F w D (i+1) d b2 l
theorem elH.len {r:Rt α}{c:List Value}{b:List Nat}{x:α}{o:Option (List Value)}(h:elH r F w c b x o):c.length=r.sz:=by
  cases o with
  | none=>exact r.len h
  | some c0=>exact h.2.2.1
theorem elH.one {r:Rt α}{c:List Value}{b:List Nat}{x:α}{o:Option (List Value)}(h:elH r F w c b x o): ∀v ∈ c,v.oneCell'=true:=by
  cases o with
  | none=>exact r.one h
  | some c0=>exact h.2.2.2
theorem elH.mono {r:Rt α}{c:List Value}{b:List Nat}{x:α}{o:Option (List Value)}(hs:Same F F' w w')(hb: ∀k ∈ b,w'.heap[k]? =w.heap[k]?)(h:elH r F w c b x o):elH r F' w' c b x o:=by
  cases o with
  | none=>exact r.mono hs hb h
  | some c0=>exact h
theorem aJf {r:Rt α}{D:Hol}: ∀{l:List α} {i:Nat} {cs:List Value} {bs:List Nat},kM r F w D i cs bs l→cs.length=l.length * r.sz
  | [],_,cs,bs,h=>by rw [h.1]; simp
  | x :: l,i,cs,bs,h=>by
    obtain ⟨c,d,b1,b2,rfl,rfl,h1,h2⟩:=h
    have:=aJf h2
    simp [h1.len,this,Nat.add_mul]; omega
theorem aDm {r:Rt α}{D:Hol}: ∀{l:List α} {i:Nat} {cs:List Value} {bs:List Nat},kM r F w D i cs bs l→ ∀v ∈ cs,v.oneCell'=true
  | [],_,cs,bs,h=>by rw [h.1]; simp
  | x :: l,i,cs,bs,h=>by
    obtain ⟨c,d,b1,b2,rfl,rfl,h1,h2⟩:=h
    intro v hv
    exact (List.mem_append.1 hv).elim (h1.one v) (aDm h2 v)
theorem qY {r:Rt α}{D:Hol}(hs:Same F F' w w'): ∀{l:List α} {i:Nat} {cs:List Value} {bs:List Nat},(∀k ∈ bs,w'.heap[k]? =w.heap[k]?)→kM r F w D i cs bs l→kM r F' w' D i cs bs l
  | [],_,_,_,_,h=>h
  | _ :: _,_,_,_,hb,h=>by
    obtain ⟨c,d,b1,b2,rfl,rfl,h1,h2⟩:=h
    exact ⟨c,d,b1,b2,rfl,rfl,h1.mono hs (fun k hk=>hb k (List.mem_append_left _ hk)),qY hs (fun k hk=>hb k (List.mem_append_right _ hk)) h2⟩
theorem aFh {r:Rt α}{D D':Hol}: ∀{l:List α} {i:Nat} {cs:List Value} {bs:List Nat},(∀k,i≤k→k<i+l.length→D'.lookup k=D.lookup k)→kM r F w D i cs bs l→kM r F w D' i cs bs l
  | [],_,_,_,_,h=>h
  | x :: l,i,_,_,hD,h=>by
    obtain ⟨c,d,b1,b2,rfl,rfl,h1,h2⟩:=h
    refine ⟨c,d,b1,b2,rfl,rfl,?_,aFh (fun k h3 h4=>hD k (by omega) (by simp; omega)) h2⟩
    rw [hD i (Nat.le_refl _) (by simp)]; exact h1
theorem aJo {r:Rt α}: ∀{l m:List α} {i j:Nat} {cs ds:List Value} {b1 b2:List Nat},kM r F w [] i cs b1 l→kM r F w [] j ds b2 m→kM r F w [] i (cs++ds) (b1++b2) (l++m)
  | [],m,i,j,cs,ds,b1,b2,h,k=>by
    rw [h.1,h.2]
    have q: ∀{m:List α} {i j:Nat} {ds:List Value} {b2:List Nat},kM r F w [] j ds b2 m→kM r F w [] i ds b2 m:=by
      intro m
      induction m with
      | nil=>exact fun h=>h
      | cons x m ih=>
        intro i j ds b2 h
        obtain ⟨c,d,b1,b2,rfl,rfl,h1,h2⟩:=h
        exact ⟨c,d,b1,b2,rfl,rfl,h1,ih h2⟩
    exact q k
  | x :: l,m,i,j,cs,ds,b1,b2,h,k=>by
    obtain ⟨c,d,b3,b4,rfl,rfl,h1,h2⟩:=h
    exact ⟨c,d++ds,b3,b4++b2,by simp,by simp,h1,aJo h2 k⟩
theorem nO {D:Hol}{k i:Nat}{c:List Value}(h:k≠i):List.lookup k ((i,c) :: D)=List.lookup k D:=by
 rw [List.lookup_cons];have:(k==i)=false:=by simpa using h
 rw [this]
theorem wG {D:Hol}{i:Nat}{c:List Value}:List.lookup i ((i,c) :: D)=some c:=by simp
theorem aGu {r:Rt α}{D:Hol}: ∀{l:List α} {k i:Nat} {cs:List Value} {bs:List Nat} {x:α},l[k]? =some x→D.lookup (i+k)=none→kM r F w D i cs bs l→
    ∃b0 b1 b2,bs=b0++(b1++b2)∧r.rd F w ((cs.drop (k * r.sz)).take r.sz) b1 x∧kM r F w ((i+k,(cs.drop (k * r.sz)).take r.sz) :: D) i cs (b0++b2) l
  | [],k,i,cs,bs,x,hx,_,_=>by simp at hx
  | y :: l,0,i,cs,bs,x,hx,hD,h=>by
    obtain ⟨c,d,b1,b2,rfl,rfl,h1,h2⟩:=h
    obtain rfl:y=x:=by simpa using hx
    rw [show D.lookup i=none from hD] at h1
    have e:(List.drop (0 * r.sz) (c++d)).take r.sz=c:=by rw [Nat.zero_mul,List.drop_zero,← r.len h1,List.take_left']; rfl
    rw [e]
    refine ⟨[],b1,b2,rfl,h1,c,d,[],b2,rfl,rfl,?_,aFh (fun k h3 h4=>nO (by omega)) h2⟩
    rw [Nat.add_zero,wG]
    exact ⟨rfl,rfl,r.len h1,r.one h1⟩
  | y :: l,k+1,i,cs,bs,x,hx,hD,h=>by
    obtain ⟨c,d,b3,b4,rfl,rfl,h1,h2⟩:=h
    obtain ⟨b0,b1,b2,rfl,h3,h4⟩:=aGu (k:=k) (x:=x) (by simpa using hx) (by rw [show i+1+k=i+(k+1) by omega]; exact hD) h2
    have e:List.drop ((k+1) * r.sz) (c++d)=List.drop (k * r.sz) d:=by
      rw [show (k+1) * r.sz=c.length+k * r.sz by rw [h1.len,Nat.add_mul]; omega,List.drop_append,List.drop_eq_nil_of_le (by omega),List.nil_append,show c.length+k * r.sz - c.length=k * r.sz by omega]
    rw [e,show i+(k+1)=i+1+k by omega]
    refine ⟨b3++b0,b1,b2,by simp,h3,c,d,b3,b0++b2,rfl,by simp,?_,h4⟩
    rw [nO (by omega)]; exact h1
theorem aHj {r:Rt α}{D:Hol}{c:List Value}{b1:List Nat}{y:α}: ∀{l:List α} {k i:Nat} {cs:List Value} {bs:List Nat},k<l.length→D.lookup (i+k)=none→r.rd F w c b1 y→kM r F w ((i+k,c) :: D) i cs bs l→
    ∃b0 b2,bs=b0++b2∧kM r F w D i cs (b0++(b1++b2)) (l.set k y)
  | [],k,i,cs,bs,hk,_,_,_=>by simp at hk
  | x :: l,0,i,cs,bs,hk,hD,hr,h=>by
    obtain ⟨c',d,b3,b4,rfl,rfl,h1,h2⟩:=h
    rw [Nat.add_zero,wG] at h1
    obtain ⟨rfl,rfl,h3,h4⟩:=h1
    refine ⟨[],b4,rfl,c',d,b1,b4,rfl,rfl,?_,aFh (fun k h5 h6=>(nO (by omega)).symm) h2⟩
    rw [show D.lookup i=none from hD]; exact hr
  | x :: l,k+1,i,cs,bs,hk,hD,hr,h=>by
    obtain ⟨c',d,b3,b4,rfl,rfl,h1,h2⟩:=h
    rw [show i+(k+1)=i+1+k by omega] at h1 h2 hD
    obtain ⟨b0,b2,rfl,h3⟩:=aHj (k:=k) (by simpa using hk) hD hr h2
    refine ⟨b3++b0,b2,by simp,c',d,b3,b0++(b1++b2),rfl,by simp,?_,h3⟩
    rw [nO (by omega)] at h1; exact h1
theorem aJv {r : Rt α} {D : Hol} {c c' : List Value} (hc : c'.length = r.sz) (h1c : ∀ v ∈ c', v.oneCell' = true) : ∀ {l : List α} {k i : Nat} {cs : List Value} {bs : List Nat}, k < l.length → kM r F w ((i + k, c) :: D) i cs bs l →
    kM r F w ((i + k, c') :: D) i (splice cs (k * r.sz) c') bs l
  | [], k, i, cs, bs, hk, _ => by simp at hk
  | x :: l, 0, i, cs, bs, hk, h => by
    obtain ⟨c0, d, b3, b4, rfl, rfl, h1, h2⟩ := h
    rw [Nat.add_zero, wG] at h1
    obtain ⟨rfl, rfl, h3, h4⟩ := h1
    refine ⟨c', d, [], b4, ?_, rfl, ?_, aFh (fun k h5 h6 => by rw [nO (by omega), nO (by omega)]) h2⟩
    · unfold splice; rw [Nat.zero_mul, List.take_zero, List.nil_append, Nat.zero_add, hc, ← h3, List.drop_left']; rfl
    · rw [Nat.add_zero, wG]; exact ⟨rfl, rfl, hc, h1c⟩
  | x :: l, k + 1, i, cs, bs, hk, h => by
    obtain ⟨c0, d, b3, b4, rfl, rfl, h1, h2⟩ := h
    rw [show i + (k + 1) = i + 1 + k by omega] at h1 h2 ⊢
    refine ⟨c0, splice d (k * r.sz) c', b3, b4, ?_, rfl, ?_, aJv hc h1c (by simpa using hk) h2⟩
    · have hl := h1.len
      unfold splice
      rw [show (k + 1) * r.sz = c0.length + k * r.sz by rw [hl, Nat.add_mul]; omega, List.take_append, List.take_of_length_le (by omega), show c0.length + k * r.sz - c0.length = k * r.sz by omega, List.drop_append, List.drop_eq_nil_of_le (by omega), List.nil_append,
        show c0.length + k * r.sz + c'.length - c0.length = k * r.sz + c'.length by omega]
      simp
    · rw [nO (by omega)] at h1 ⊢; exact h1
theorem aAq {r:Rt α}{D:Hol}{c:List Value}: ∀{l:List α} {k i:Nat} {cs:List Value} {bs:List Nat},k<l.length→D.lookup (i+k)=some c→kM r F w D i cs bs l→(cs.drop (k * r.sz)).take r.sz=c
  | [],k,i,cs,bs,hk,_,_=>by simp at hk
  | x :: l,0,i,cs,bs,hk,hD,h=>by
    obtain ⟨c0,d,b3,b4,rfl,rfl,h1,h2⟩:=h
    rw [show D.lookup i=some c from hD] at h1
    rw [Nat.zero_mul,List.drop_zero,← h1.2.2.1,List.take_left']
    · exact h1.1
    · rfl
  | x :: l,k+1,i,cs,bs,hk,hD,h=>by
    obtain ⟨c0,d,b3,b4,rfl,rfl,h1,h2⟩:=h
    have e:List.drop ((k+1) * r.sz) (c0++d)=List.drop (k * r.sz) d:=by
      rw [show (k+1) * r.sz=c0.length+k * r.sz by rw [h1.len,Nat.add_mul]; omega,List.drop_append,List.drop_eq_nil_of_le (by omega),List.nil_append,show c0.length+k * r.sz - c0.length=k * r.sz by omega]
    rw [e]
    exact aAq (by simpa using hk) (by rw [show i+1+k=i+(k+1) by omega]; exact hD) h2
theorem qM {r : Rp α} : ∀ {l : List α} {i : Nat} {cs : List Value} {bs : List Nat}, kM (Rt.of r) F w [] i cs bs l ↔ bs = [] ∧ rows r F w cs l
  | [], _, cs, bs => ⟨fun h => ⟨h.2, h.1⟩, fun h => ⟨h.2, h.1⟩⟩
  | x :: l, i, cs, bs => by
    constructor
    · rintro ⟨c, d, b1, b2, rfl, rfl, h1, h2⟩
      obtain ⟨rfl, h3⟩ : b1 = [] ∧ r.rd F w c x := h1
      obtain ⟨rfl, h4⟩ := qM.1 h2
      exact ⟨rfl, c, d, rfl, h3, h4⟩
    · rintro ⟨rfl, c, d, rfl, h1, h2⟩
      exact ⟨c, d, [], [], rfl, rfl, ⟨rfl, h1⟩, qM.2 ⟨rfl, h2⟩⟩
def Rt.row (r:Rt α)(e:TypeId)(D:Hol):Rt (List α):=
  ⟨1,fun F w cs bs l=> ∃v xs b1,cs= [v]∧bs=ob v++b1∧kM r F w D 0 xs b1 l∧OwO w e r.sz v l.length xs,
   fun ⟨v,xs,b1,e,_⟩=>by subst e; rfl,fun ⟨v,xs,b1,e,_,_,h⟩=>by subst e; simpa using h.one,
   fun hs hb ⟨v,xs,b1,e,e2,h1,h2⟩=>⟨v,xs,b1,e,e2,qY hs (fun k hk=>hb k (by rw [e2]; exact List.mem_append_right _ hk)) h1,h2.same fun k hk=>hb k (by rw [e2]; exact List.mem_append_left _ hk)⟩⟩
end rt
section hd
variable {P:Program} {ρ:Env} {w w0 w1:World} {d:Option Tmp} {x y z:Operand} {t u ty e:TypeId} {pos:String} {af:Array Edge} {g:Option (Nat×Bool)}
variable {v:Value} {b o i n c s m:Nat} {k k':IntKind} {cs xs vs:List Value} {bs:List Nat} {T:TypeId} {O S:List Nat} {l:List Th} {α β:Type} {r:Rp α} {R:Rt α} {D:Hol} {xl yl zl:List α} {a:α} {j q:Int} {F:Nat→Prop}
theorem Hd.turnN (H : Hd O w0 w S l) (idx : List Nat) (ns : List Th) (M : List Nat) (ho : Only M w w1) (hM : ∀ b ∈ M, b ∈ bks (Go.Lf.pick idx l)) (hb : ∀ b ∈ bks ns, (b ∈ bks (Go.Lf.pick idx l) ∨ w.heap.size ≤ b) ∧ b < w1.heap.size) (nd : (bks ns).Nodup)
    (hh : Same (frees O l) (frees O (rest idx l ++ ns)) w w1 → ∀ x ∈ ns, x.holds (frees O (rest idx l ++ ns)) w1) : Hd O w0 w1 S (rest idx l ++ ns) := by
  have apart : ∀ c ∈ bks (rest idx l), c ∉ bks (Go.Lf.pick idx l) := by
    intro c hc h
    have := H.rest_apart (ow := idx) (fs := []) (by simp) hc
    rw [List.append_nil] at this
    exact this h
  have old : ∀ c ∈ bks (Go.Lf.pick idx l), c < w.heap.size ∧ c ∈ bks l := fun c hc => ⟨H.lt (xZ hc), xZ hc⟩
  have same : Same (frees O l) (frees O (rest idx l ++ ns)) w w1 := by
    intro c hc hl
    refine ⟨⟨hc.1, fun h => ?_⟩, ho.block c hl (fun h => hc.2 (old c (hM c h)).2)⟩
    rw [mZ, List.mem_append] at h
    rcases h with h | h
    · exact hc.2 (xZ h)
    · rcases (hb c h).1 with h | h
      · exact hc.2 (old c h).2
      · omega
  refine ⟨⟨ho.os.trans H.only.os, ho.tape.trans H.only.tape, ho.output.trans H.only.output, Nat.le_trans H.only.size ho.size, fun c hc hcs => ?_⟩, fun x hx => ?_, fun x hx c hc => ?_, ?_, H.fo⟩
  · have hkw := Nat.lt_of_lt_of_le hc H.only.size
    rw [ho.block c hkw (fun h => ?_), H.only.block c hc hcs]
    obtain ⟨y, hy, hcy⟩ := dQ.1 (old c (hM c h)).2
    rcases (H.own y hy c hcy).1 with h | h
    · omega
    · exact hcs h
  · rcases List.mem_append.1 hx with h | h
    · obtain ⟨i, _, hi⟩ := jD.1 h
      refine Th.same (H.item hi) same fun c hc => ho.block c (H.own _ (List.mem_of_getElem? hi) c hc).2 (fun hm => ?_)
      exact apart c (dQ.2 ⟨x, h, hc⟩) (hM c hm)
    · exact hh same x h
  · rcases List.mem_append.1 hx with h | h
    · obtain ⟨i, _, hi⟩ := jD.1 h
      have := H.own x (List.mem_of_getElem? hi) c hc
      exact ⟨this.1, Nat.lt_of_lt_of_le this.2 ho.size⟩
    · have q := hb c (dQ.2 ⟨x, h, hc⟩)
      refine ⟨?_, q.2⟩
      rcases q.1 with h | h
      · obtain ⟨y, hy, hcy⟩ := dQ.1 (old c h).2
        exact (H.own y hy c hcy).1
      · exact .inl (Nat.le_trans H.only.size h)
  · rw [mZ, List.nodup_append]
    refine ⟨H.pick_nd (aNm _ _), nd, fun a ha c hc e => ?_⟩
    subst e
    rcases (hb a hc).1 with h | h
    · exact apart a ha h
    · have := H.lt (xZ ha); omega
theorem Hd.recut (H:Hd O w0 w S l)(idx:List Nat)(hn:idx.Nodup)(ns:List Th)(hb:(bks ns).Perm (bks (Go.Lf.pick idx l)))(hh: ∀x ∈ ns,x.holds (frees O l) w):Hd O w0 w S (rest idx l++ns):=
  H.turnN idx ns [] (Only.refl _ w) (by simp) (fun c hc=>⟨.inl (hb.mem_iff.1 hc),H.lt (xZ (hb.mem_iff.1 hc))⟩) (hb.nodup_iff.2 (H.pick_nd hn)) fun hs x hx=>Th.same (hh x hx) hs fun _ _=>rfl
theorem Hd.split (H:Hd O w0 w S l)(i:Nat){it:Th}(hi:l[i]? =some it)(ns:List Th)(hb:(bks ns).Perm it.blocks)(hh: ∀x ∈ ns,x.holds (frees O l) w):Hd O w0 w S (rest [i] l++ns):=
  H.recut [i] (by simp) ns (by simpa [Go.Lf.pick,hi,bks] using hb) hh
theorem Hd.unite (H:Hd O w0 w S l)(idx:List Nat)(hn:idx.Nodup)(it:Th)(hb:it.blocks.Perm (bks (Go.Lf.pick idx l)))(hh:it.holds (frees O l) w):Hd O w0 w S (rest idx l++ [it]):=
  H.recut idx hn [it] (by simpa [bks] using hb) (by simpa using hh)
theorem jJ (h:(Rt.row R e D).rd F w [v] bs xl): ∃a c,v= .slice a xl.length c:=by
 obtain ⟨v',xs,b1,hv,_,_,h2⟩:=h;obtain rfl:v=v':=by simpa using hv
 exact h2.slr.shape
theorem Hd.focus (H : Hd O w0 w S l) (i : Nat) (hi : l[i]? = some (.tr (Rt.row R e D) [v] bs xl)) (hx : at' xl j = some a) (hD : D.lookup j.toNat = none) :
    ∃ b o cap c b1 b2, v = .slice (some ⟨b, o, none⟩) xl.length cap ∧ Cells w ⟨b, o + j.toNat * R.sz, none⟩ c ∧ Hd O w0 w S (rest [i] l ++ [.tr (Rt.row R e ((j.toNat, c) :: D)) [v] b1 xl, .tr R c b2 a]) := by
  obtain ⟨h0, h1, h2⟩ := zL hx
  obtain ⟨v', xs, b1, hv, hbs, r1, r2⟩ := H.item hi
  obtain rfl : v = v' := by simpa using hv
  obtain ⟨b0, b2, b3, rfl, r3, r4⟩ := aGu h2 (by rw [Nat.zero_add]; exact hD) r1
  rw [Nat.zero_add] at r4
  obtain ⟨b, o, cap, e1, -, -, hc⟩ := r2.slr.some (by omega)
  refine ⟨b, o, cap, (xs.drop (j.toNat * R.sz)).take R.sz, ob v ++ (b0 ++ b3), b2, e1, hc.drop _ _, H.split i hi _ ?_ ?_⟩
  · show (bks [_, _]).Perm bs
    subst hbs
    simp only [bks, List.flatMap_cons, Th.blocks, List.flatMap_nil, List.append_nil, List.append_assoc]
    refine List.Perm.append_left _ (List.Perm.append_left _ ?_)
    exact List.perm_append_comm
  · intro x hx
    simp only [List.mem_cons, List.not_mem_nil, or_false] at hx
    rcases hx with rfl | rfl
    · exact ⟨v, xs, _, rfl, rfl, r4, r2⟩
    · exact r3
theorem Hd.unfocus {c : List Value} {b1 b2 : List Nat} {a' : α} {f : Nat} (H : Hd O w0 w S l) (i k : Nat) (hi : l[i]? = some (.tr (Rt.row R e ((f, c) :: D)) [v] b1 xl)) (hk : l[k]? = some (.tr R c b2 a')) (hik : i ≠ k) (hf : j.toNat = f) (hD : D.lookup f = none) (hs : set' xl j a' = some yl) :
    ∃ b3, Hd O w0 w S (rest [i, k] l ++ [.tr (Rt.row R e D) [v] b3 yl]) := by
 subst hf;obtain ⟨h0, h1, rfl⟩ := aOx hs;obtain ⟨v', xs, b4, hv, hbs, r1, r2⟩ := H.item hi;obtain rfl : v = v' := by simpa using hv
 have hjl : j.toNat < xl.length := by omega
 obtain ⟨b0, b5, rfl, r3⟩ := aHj (i := 0) (k := j.toNat) (c := c) (D := D) hjl (by rw [Nat.zero_add]; exact hD) (H.item hk) (by rw [Nat.zero_add]; exact r1);refine ⟨ob v ++ (b0 ++ (b2 ++ b5)), H.unite [i, k] (by simpa using hik) _ ?_ ?_⟩;subst hbs;simp only [Go.Lf.pick, List.filterMap_cons, hi, hk, List.filterMap_nil, bks, List.flatMap_cons, Th.blocks, List.flatMap_nil, List.append_nil, List.append_assoc];refine List.Perm.append_left _ (List.Perm.append_left _ ?_);exact List.perm_append_comm;exact ⟨v, xs, _, rfl, rfl, r3, by rw [List.length_set]; exact r2⟩
theorem Hd.hole (H:Hd O w0 w S l)(i:Nat){c:List Value}{f cap:Nat}(hi:l[i]? =some (.tr (Rt.row R e D) [.slice (some ⟨b,o,none⟩) n cap] bs xl))(hD:D.lookup f=some c)(hf:f<xl.length):Cells w ⟨b,o+f * R.sz,none⟩ c:=by
 obtain ⟨v',xs,b1,hv,hbs,r1,r2⟩:=H.item hi;obtain rfl:_=v':=by simpa using hv
 have e1:=aAq hf (by rw [Nat.zero_add]; exact hD) r1;obtain ⟨b',o',cap',e2,-,-,hc⟩:=r2.slr.some (by omega);cases e2;rw [← e1];exact hc.drop _ _
theorem aGd {bytes : Nat} {zs ys : List Value} {u' : Value} (hu : P.underlying t = some (.slice e)) (he : El P e s bytes zs) (hx : ev ρ x = v) (hy : ev ρ y = u') (hown : OwO w e s v n xs) (hr : SlR w u' s m ys)
    (h1 : ∀ u ∈ ys, u.oneCell' = true) (h63 : n + m ≤ maxLen) (hby : (n + m) * bytes ≤ 140737488355328) :
    ∃ v' w', Do P ⟨d, .call { callee := .builtin .append, args := #[x, y], argTypes := #[t, t] }, ty, pos, af, g⟩ ρ w v' w' ∧ OwO w' e s v' (n + m) (xs ++ ys) ∧ Only (ob v) w w' ∧ ∀ b ∈ ob v', b ∈ ob v ∨ w.heap.size ≤ b := by
  obtain ⟨hl, hown⟩ := hown
  rcases hown with ⟨rfl, rfl⟩ | ⟨g', o, cap, cur, rfl, hb, hnc, hcm, hcs, htake⟩
  · obtain ⟨v', w', hd, hA⟩ := aJd (P := P) (ρ := ρ) (w := w) (d := d) (ty := ty) (pos := pos) (af := af) (g := g) hu he hx hy (⟨hl, .inl ⟨rfl, rfl⟩⟩ : w.ownsRow 0 e s (.slice none 0 0) 0 xs) hr h1 h63 hby
    exact ⟨v', w', hd, .of_owns hA.own, hA.only, fun b hb => (hA.blk b (kK.1 hb)).imp kK.2 id⟩
  obtain ⟨i, z, i1, i2, i3, i4, i5⟩ := he.get
  have hd : ∀ v' w', (Builtin.append_ #[t, t] ty #[.slice (some ⟨g', o, none⟩) n cap, u']).run P w = .ok v' w' → Do P ⟨d, .call { callee := .builtin .append, args := #[x, y], argTypes := #[t, t] }, ty, pos, af, g⟩ ρ w v' w' := by
    intro v' w' h
    unfold Do; simp [execOp, resolve, invoke, builtin, hx, hy, h]
  rcases hr.2 with ⟨hu', rfl⟩ | ⟨ua, cap', hu', h2, h3, _, hc⟩
  · subst hu'
    have hys : ys = [] := List.eq_nil_of_length_eq_zero (by have := hr.1; omega)
    subst hys
    refine ⟨_, w, hd _ _ ?_, ⟨by simpa using hl, .inr ⟨g', o, cap, cur, rfl, hb, hnc, hcm, hcs, by simpa using htake⟩⟩, Only.refl _ w, fun b hb => .inl hb⟩
    simp [Builtin.append_, run_underlying hu, sizeOf, typeInfo, i1, Builtin.lenOf, Builtin.firstCells, storeCells, hnc]
  · subst hu'
    have hzs : z.cells.size = s := by rw [i5]; simp [he.len]
    by_cases hroom : n + m ≤ cap
    · subst i3
      have hfit : o + n * i.size + ys.length ≤ cur.length := by
        have h9 := Nat.mul_le_mul_right i.size hroom
        rw [Nat.add_mul] at h9
        have := hr.1
        omega
      obtain ⟨w', hst, hW⟩ := OB.run_store (P := P) hb hfit h1
      have hfc := run_firstCells_some (P := P) w i.size m ua m cap' ys hr.1 (fun j u hj => hc j u hj)
      refine ⟨_, w', hd (.slice (some ⟨g', o, none⟩) (n + m) cap) w' ?_, ⟨by rw [List.length_append, hl, hr.1, Nat.add_mul], .inr ⟨g', o, cap, _, rfl, hW.blk, hroom, hcm, ?_, ?_⟩⟩, by simpa [ob, aH] using hW.only, fun b hb => .inl hb⟩
      · simp [Builtin.append_, run_underlying hu, sizeOf, typeInfo, i1, Builtin.lenOf, hroom, hfc, Addr.add_lit, hst]
      · rw [bP hfit]; exact hcs
      · have e1 := hr.1
        apply List.ext_getElem?
        intro k
        rw [List.getElem?_take, List.getElem?_drop, jO hfit]
        have e2 : ∀ k, xs[k]? = if k < n * i.size then cur[o + k]? else none := by
          intro k; rw [← htake, List.getElem?_take, List.getElem?_drop]
        rw [Nat.add_mul]
        by_cases c1 : k < n * i.size
        · rw [if_pos (by omega), if_pos (by omega), List.getElem?_append_left (by omega), e2, if_pos c1]
        · rw [List.getElem?_append_right (by omega), hl]
          by_cases c2 : k < n * i.size + m * i.size
          · rw [if_pos c2, if_neg (by omega), if_pos (by omega)]; congr 1; omega
          · rw [if_neg c2, List.getElem?_eq_none (by omega)]
    · have hpart : Cells w ⟨g', o, none⟩ xs := hb.part htake
      obtain ⟨v', w', q, ho, hg⟩ := run_append_arg_grows (P := P) (w := w) t ty e i z s bytes hu i1 i2 i3 i4 hzs he.pos ⟨g', o, none⟩ n cap xs hl (fun j u hj => hpart j u hj) ua m cap' ys hr.1 (fun j u hj => hc j u hj) (by omega) h63 hby
      have ho0 : w'.ownsRow 0 e s v' (n + m) (xs ++ ys) := ⟨ho.1, ho.2.imp id fun ⟨g, c, u, h1, h2, h3⟩ => ⟨g, c, u, h1, Nat.zero_le _, h3⟩⟩
      refine ⟨v', w', hd _ _ q, .of_owns ho0, ⟨hg.os, hg.tape, hg.output, hg.size, fun k hk _ => hg.block k hk (by simp)⟩, fun b hb => .inr (rF ho b hb).1⟩
theorem wY {bytes : Nat} {zs : List Value} {uv : Value} {bs' : List Nat} {ke : TypeId} (H : Hd O w0 w S l) (i k : Nat) (hi : l[i]? = some (.tr (Rt.row R e []) [v] bs xl)) (hk : l[k]? = some (.tr (Rt.row R ke []) [uv] bs' yl)) (hik : i ≠ k) (hu : P.underlying t = some (.slice e)) (he : El P e R.sz bytes zs) (hx : ev ρ x = v) (hy : ev ρ y = uv)
    (ha : app' bytes xl yl = some zl) :
    ∃ v' w', Do P ⟨d, .call { callee := .builtin .append, args := #[x, y], argTypes := #[t, t] }, ty, pos, af, g⟩ ρ w v' w' ∧ ∃ b3, Hd O w0 w' S (rest [i, k] l ++ [.tr (Rt.row R e []) [v'] b3 zl]) := by
  obtain ⟨h1, h2, rfl⟩ := aCq ha
  obtain ⟨v1, xs, b1, hv1, hb1, r1, r2⟩ := H.item hi
  obtain rfl : v = v1 := by simpa using hv1
  obtain ⟨v2, ys, b2, hv2, hb2, s1, s2⟩ := H.item hk
  obtain rfl : uv = v2 := by simpa using hv2
  obtain ⟨v', w', hd, hA, hO, hn⟩ := aGd (P := P) (ρ := ρ) (w := w) (d := d) (ty := ty) (pos := pos) (af := af) (g := g) hu he hx hy r2 s2.slr (aDm s1) h1 h2
  have nd := H.pick_nd (idx := [i, k]) (by simpa using hik)
  have ep : bks (Go.Lf.pick [i, k] l) = (ob v ++ b1) ++ (ob uv ++ b2) := by subst hb1 hb2; simp [bks, Go.Lf.pick, hi, hk, Th.blocks]
  have hlt : ∀ c ∈ (ob v ++ b1) ++ (ob uv ++ b2), c < w.heap.size := fun c hc => H.lt (xZ (by rw [ep]; exact hc))
  rw [ep] at nd
  obtain ⟨nda, ndb, ndx⟩ := List.nodup_append.1 nd
  obtain ⟨-, nd1, ndx1⟩ := List.nodup_append.1 nda
  obtain ⟨-, nd2, ndx2⟩ := List.nodup_append.1 ndb
  have mem2 : ∀ c ∈ b1 ++ b2, c ∈ (ob v ++ b1) ++ (ob uv ++ b2) := by
    intro c hc
    simp only [List.mem_append] at hc ⊢
    rcases hc with h | h
    · exact .inl (.inr h)
    · exact .inr (.inr h)
  have nov : ∀ c ∈ b1 ++ b2, c ∉ ob v := by
    intro c hc h
    rcases List.mem_append.1 hc with h' | h'
    · exact ndx1 c h c h' rfl
    · exact ndx c (List.mem_append_left _ h) c (List.mem_append_right _ h') rfl
  refine ⟨v', w', hd, ob v' ++ (b1 ++ b2), H.turnN [i, k] _ (ob v) hO (fun c hc => by rw [ep]; exact List.mem_append_left _ (List.mem_append_left _ hc)) (fun c hc => ?_) ?_ (fun hs x hx => ?_)⟩
  · have hc : c ∈ ob v' ++ (b1 ++ b2) := by simpa [bks, Th.blocks] using hc
    rw [ep]
    rcases List.mem_append.1 hc with h | h
    · exact ⟨(hn c h).imp (fun h => List.mem_append_left _ (List.mem_append_left _ h)) id, hA.lt c h⟩
    · exact ⟨.inl (mem2 c h), Nat.lt_of_lt_of_le (hlt c (mem2 c h)) hO.size⟩
  · have : (ob v' ++ (b1 ++ b2)).Nodup := by
      rw [List.nodup_append]
      refine ⟨rV _, List.nodup_append.2 ⟨nd1, nd2, fun a ha c hc => ndx a (List.mem_append_right _ ha) c (List.mem_append_right _ hc)⟩, fun a ha c hc e => ?_⟩
      subst e
      rcases hn a ha with h | h
      · exact nov a hc h
      · have := hlt a (mem2 a hc); omega
    simpa [bks, Th.blocks] using this
  · obtain rfl := List.mem_singleton.1 hx
    refine ⟨v', xs ++ ys, b1 ++ b2, rfl, rfl, ?_, by rw [List.length_append]; exact hA⟩
    exact qY hs (fun c hc => hO.block c (hlt c (mem2 c hc)) (nov c hc)) (aJo r1 s1)
theorem aTl {bytes : Nat} {zs : List Value} {uv : Value} (H : Hd O w0 w S l) (i : Nat) (hi : l[i]? = some (.tr (Rt.row (Rt.of r) e []) [v] bs xl)) (hu : P.underlying t = some (.slice e)) (he : El P e r.sz bytes zs) (hx : ev ρ x = v) (hy : ev ρ y = uv)
    (hr : Sr r (frees O l) w uv yl) (ha : app' bytes xl yl = some zl) :
    ∃ v' w', Do P ⟨d, .call { callee := .builtin .append, args := #[x, y], argTypes := #[t, t] }, ty, pos, af, g⟩ ρ w v' w' ∧ ∃ b3, Hd O w0 w' S (rest [i] l ++ [.tr (Rt.row (Rt.of r) e []) [v'] b3 zl]) := by
 obtain ⟨h1, h2, rfl⟩ := aCq ha;obtain ⟨v1, xs, b1, hv1, hb1, r1, r2⟩ := H.item hi;obtain rfl : v = v1 := by simpa using hv1
 obtain ⟨rfl, r3⟩ := qM.1 r1;obtain ⟨ys, s1, s2⟩ := hr;obtain ⟨v', w', hd, hA, hO, hn⟩ := aGd (P := P) (ρ := ρ) (w := w) (d := d) (ty := ty) (pos := pos) (af := af) (g := g) hu he hx hy r2 s2 (aCb s1) h1 h2;have ep : bks (Go.Lf.pick [i] l) = ob v := by subst hb1; simp [bks, Go.Lf.pick, hi, Th.blocks]
 refine ⟨v', w', hd, ob v', H.turnN [i] _ (ob v) hO (fun c hc => by rw [ep]; exact hc) (fun c hc => ?_) (by simpa [bks, Th.blocks] using rV v') (fun hs x hx => ?_)⟩;have hc : c ∈ ob v' := by simpa [bks, Th.blocks] using hc
 rw [ep]; exact ⟨hn c hc, hA.lt c hc⟩;obtain rfl := List.mem_singleton.1 hx;refine ⟨v', xs ++ ys, [], rfl, (List.append_nil _).symm, qM.2 ⟨rfl, ?_⟩, by rw [List.length_append]; exact hA⟩;exact cO hs (mG r3 s1)
theorem Hd.own_row (H:Hd O w0 w S l)(i:Nat)(hi:l[i]? =some (.own r v e xl)):Hd O w0 w S (l.set i (.tr (Rt.row (Rt.of r) e []) [v] (ob v) xl)):=by
 refine H.turn hi (Only.refl _ w) (fun hs=>?_) (fun b hb=>⟨.inl hb,(H.own _ (List.mem_of_getElem? hi) b hb).2⟩) (rV v);obtain ⟨xs,h1,h2⟩:=H.item hi;exact ⟨v,xs,[],rfl,by simp,qM.2 ⟨rfl,cO hs h1⟩,.of_owns h2⟩
theorem nU (H:Hd O w0 w S l)(R:Rt α)(e:TypeId):Hd O w0 w S (l++ [.tr (Rt.row R e []) [.slice none 0 0] [] ([]:List α)]):=
  H.add (Only.refl [] w) (fun _=>⟨_,[],[],rfl,by simp [ob,aH],⟨rfl,rfl⟩,OwO.nil⟩) (by simp [Th.blocks]) (by simp [Th.blocks])
theorem own_part (h : OwO w e s v n xs) {lo hi : Nat} (h1 : lo ≤ hi) (h2 : hi ≤ n) : ∃ a c, v = .slice a n c ∧ n ≤ c ∧ OwO w e s (sliced a lo hi c s) (hi - lo) ((xs.drop (lo * s)).take ((hi - lo) * s)) ∧ ob (sliced a lo hi c s) = ob v := by
  obtain ⟨hl, h⟩ := h
  have e1 : ((xs.drop (lo * s)).take ((hi - lo) * s)).length = (hi - lo) * s := by
    have h3 : (hi - lo) * s + lo * s = hi * s := by rw [← Nat.add_mul]; congr 1; omega
    have h4 := Nat.mul_le_mul_right s h2
    simp only [List.length_take, List.length_drop]; omega
  rcases h with ⟨rfl, rfl⟩ | ⟨g, o, cap, cur, rfl, hb, hnc, hcm, hcs, ht⟩
  · obtain rfl : hi = 0 := by omega
    obtain rfl : lo = 0 := by omega
    refine ⟨none, 0, rfl, Nat.le_refl _, ⟨e1, .inl ⟨?_, rfl⟩⟩, ?_⟩ <;> simp [sliced, ob, aH]
  · refine ⟨some ⟨g, o, none⟩, cap, rfl, hnc, ?_⟩
    by_cases q : cap = lo
    · have e2 : sliced (some ⟨g, o, none⟩) lo hi cap s = .slice (some ⟨g, o, none⟩) (hi - lo) (cap - lo) := by unfold sliced; rw [if_pos q]
      rw [e2]
      refine ⟨⟨e1, .inr ⟨g, o, cap - lo, cur, rfl, hb, by omega, by omega, ?_, ?_⟩⟩, by simp [ob, aH]⟩
      · have := Nat.mul_le_mul_right s (Nat.sub_le cap lo); omega
      · have : hi - lo = 0 := by omega
        rw [this]; simp
    · have e2 : sliced (some ⟨g, o, none⟩) lo hi cap s = .slice (some ⟨g, o + lo * s, none⟩) (hi - lo) (cap - lo) := by unfold sliced; rw [if_neg q]; simp [Addr.add_none]
      rw [e2]
      refine ⟨⟨e1, .inr ⟨g, o + lo * s, cap - lo, cur, rfl, hb, by omega, by omega, ?_, ?_⟩⟩, by simp [ob, aH]⟩
      · have : (cap - lo) * s + lo * s = cap * s := by rw [← Nat.add_mul]; congr 1; omega
        omega
      · rw [← ht, List.drop_take, List.take_take, List.drop_drop]
        have : (hi - lo) * s + lo * s = hi * s := by rw [← Nat.add_mul]; congr 1; omega
        have h4 := Nat.mul_le_mul_right s h2
        congr 1; omega
theorem rowF_part {lo hi : Int} (H : Hd O w0 w S l) (i : Nat) (hi' : l[i]? = some (.tr (Rt.row (Rt.of r) e []) [v] bs xl)) (hs : sub' xl lo hi = some yl) : ∃ a c, v = .slice a xl.length c ∧ 0 ≤ lo ∧ lo ≤ hi ∧ hi ≤ xl.length ∧ xl.length ≤ c ∧ Hd O w0 w S (l.set i (.tr (Rt.row (Rt.of r) e []) [sliced a lo.toNat hi.toNat c r.sz] bs yl)) := by
 obtain ⟨h0, h1, h2, rfl⟩ := aPg hs;obtain ⟨v1, xs, b1, hv1, hb1, r1, r2⟩ := H.item hi';obtain rfl : v = v1 := by simpa using hv1
 obtain ⟨rfl, r3⟩ := qM.1 r1;obtain ⟨a, c, e1, e2, e3, e4⟩ := own_part r2 (lo := lo.toNat) (hi := hi.toNat) (by omega) (by omega);have hbs : bs = ob v := hb1.trans (List.append_nil _);refine ⟨a, c, e1, h0, h1, h2, e2, H.turn hi' (Only.refl _ w) (fun hs => ?_) (fun b hb => ⟨.inl hb, (H.own _ (List.mem_of_getElem? hi') b hb).2⟩) (by show bs.Nodup; rw [hbs]; exact rV v)⟩;have q : (hi - lo).toNat = hi.toNat - lo.toNat := by omega
 refine ⟨_, (xs.drop (lo.toNat * r.sz)).take ((hi.toNat - lo.toNat) * r.sz), [], rfl, by rw [hbs, ← e4]; simp; rfl, qM.2 ⟨rfl, cO hs ?_⟩, ?_⟩;rw [q]; exact tC _ (qI _ r3);have hlen : ((xl.drop lo.toNat).take (hi - lo).toNat).length = hi.toNat - lo.toNat := by simp; omega
 rw [hlen]; exact e3
theorem aIz {c vs : List Value} {f off cap mm : Nat} {u' : Value} (H : Hd O w0 w S l) (i : Nat) (hi : l[i]? = some (.tr (Rt.row R e ((f, c) :: D)) [.slice (some ⟨b, o, none⟩) xl.length cap] bs xl)) (hf : f < xl.length) (hx : ev ρ x = .pointer (some ⟨b, o + f * R.sz + off, none⟩))
    (hs : Sz P t mm) (hm : vs.length = mm) (hy : ev ρ y = u') (hyc : u'.cells = vs.toArray) (h1 : ∀ v ∈ vs, v.oneCell' = true) (hfit : off + mm ≤ R.sz) :
    ∃ w', DoU P ⟨none, .store t x y, ty, pos, af, g⟩ ρ w w' ∧ Hd O w0 w' S (l.set i (.tr (Rt.row R e ((f, splice c off vs) :: D)) [.slice (some ⟨b, o, none⟩) xl.length cap] bs xl)) := by
  obtain ⟨v1, xs, b1, hv1, hb1, r1, hxl, r2⟩ := H.item hi
  obtain rfl : _ = v1 := by simpa using hv1
  have hcl := aAq (c := c) hf (by rw [Nat.zero_add, wG]) r1
  have hfs : f * R.sz + R.sz ≤ xl.length * R.sz := by rw [← Nat.succ_mul]; exact Nat.mul_le_mul_right _ hf
  have hclen : c.length = R.sz := by rw [← hcl]; simp; omega
  have hcone : ∀ v ∈ c, v.oneCell' = true := by
    intro v hv; rw [← hcl] at hv; exact aDm r1 v (List.mem_of_mem_drop (List.mem_of_mem_take hv))
  rcases r2 with ⟨h0, _⟩ | ⟨g', o', cap', cur, hv, hb, hnc, hcm, hcs, ht⟩
  · cases h0
  cases hv
  have hn := Nat.mul_le_mul_right R.sz hnc
  obtain ⟨w', hd, hW⟩ := nI (P := P) (ρ := ρ) (w := w) (ty := ty) (pos := pos) (af := af) (g := g) hs hm hx (by rw [hy, hyc]) h1 hb (by omega)
  have hlen2 : (splice c off vs).length = R.sz := by rw [bP (by omega)]; exact hclen
  refine ⟨w', hd, H.turn hi (hW.only.mono ?_) (fun hs => ?_) (fun k hk => ⟨.inl hk, ?_⟩) (show bs.Nodup from (nP.1 H.nd).1 _ (List.mem_of_getElem? hi))⟩
  · intro k hk; subst hb1
    obtain rfl := List.mem_singleton.1 hk
    simp [Th.blocks, ob, aH]
  · have hb1' : ∀ k ∈ b1, w'.heap[k]? = w.heap[k]? := by
      intro k hk
      have hkb : k ∈ (Th.tr (Rt.row R e ((f, c) :: D)) [.slice (some ⟨b, o, none⟩) xl.length cap] bs xl).blocks := by subst hb1; exact List.mem_append_right _ hk
      refine hW.only.block k (H.own _ (List.mem_of_getElem? hi) k hkb).2 (fun h => ?_)
      obtain rfl := List.mem_singleton.1 h
      have nd := (nP.1 H.nd).1 _ (List.mem_of_getElem? hi)
      have nd : bs.Nodup := nd
      rw [hb1] at nd
      exact (List.nodup_append.1 nd).2.2 k (by simp [ob, aH]) k hk rfl
    have r3 := aJv (c := c) (c' := splice c off vs) hlen2 (by
      intro v hv
      unfold splice at hv
      simp only [List.mem_append] at hv
      rcases hv with (h | h) | h
      · exact hcone v (List.mem_of_mem_take h)
      · exact h1 v h
      · exact hcone v (List.mem_of_mem_drop h)) hf (by rw [Nat.zero_add]; exact qY hs hb1' r1)
    rw [Nat.zero_add] at r3
    refine ⟨_, _, b1, rfl, hb1, r3, ?_, .inr ⟨b, o, cap, _, rfl, hW.blk, hnc, hcm, ?_, ?_⟩⟩
    · rw [bP (by omega)]; exact hxl
    · rw [bP (by omega)]; exact hcs
    · apply List.ext_getElem?
      intro k
      have A := jO (cs := xs) (vs := splice c off vs) (i := f * R.sz) (k := k) (by omega)
      have B := jO (cs := cur) (vs := vs) (i := o + f * R.sz + off) (k := o + k) (by omega)
      have C := jO (cs := c) (vs := vs) (i := off) (k := k - f * R.sz) (by omega)
      have hx2 : ∀ k, xs[k]? = if k < xl.length * R.sz then cur[o + k]? else none := by
        intro k; rw [← ht, List.getElem?_take, List.getElem?_drop]
      have hc2 : ∀ k, c[k]? = if k < R.sz then xs[f * R.sz + k]? else none := by
        intro k; rw [← hcl, List.getElem?_take, List.getElem?_drop]
      rw [List.getElem?_take, List.getElem?_drop, A, B]
      by_cases c0 : k < xl.length * R.sz
      · rw [if_pos c0]
        by_cases c1 : k < f * R.sz
        · rw [if_pos (by omega), if_pos c1, hx2, if_pos c0]
        · rw [if_neg c1]
          by_cases c2 : k < f * R.sz + (splice c off vs).length
          · rw [if_pos c2, C]
            by_cases c3 : k - f * R.sz < off
            · rw [if_pos (by omega), if_pos c3, hc2, if_pos (by omega), hx2, if_pos (by omega)]; congr 1; omega
            · rw [if_neg (by omega), if_neg c3]
              by_cases c4 : k - f * R.sz < off + vs.length
              · rw [if_pos (by omega), if_pos c4]; congr 1; omega
              · rw [if_neg (by omega), if_neg c4, hc2, if_pos (by omega), hx2, if_pos (by omega)]; congr 1; omega
          · rw [if_neg c2, if_neg (by omega), if_neg (by omega), hx2, if_pos c0]
      · rw [if_neg c0, if_neg (by omega), if_neg (by omega), hx2, if_neg c0]
  · exact Nat.lt_of_lt_of_le (H.own _ (List.mem_of_getElem? hi) k hk).2 hW.only.size
end hd
end Go.Lf
namespace Go.Lf
open Go.RowKit Go.OB
section
variable {κ ν:Type} (K:Ky κ)
def aFd [DecidableEq κ]:List (κ×ν)→κ→ν→List (κ×ν)
  | [],k,v=>[(k,v)]
  | p :: l,k,v=>if p.1=k then (k,v) :: l else p :: aFd l k v
theorem wL [DecidableEq κ] (k:κ)(v:ν): ∀{l:List (κ×ν)},l.any (fun p=>decide (p.1=k))=false→aFd l k v=l++ [(k,v)]
  | [],_=>rfl
  | p :: l,h=>by
    rw [List.any_cons,Bool.or_eq_false_iff] at h
    have h1: ¬p.1=k:=by simpa using h.1
    rw [aFd,if_neg h1,wL k v h.2,List.cons_append]
theorem aEx [inst : DecidableEq κ] (g : ν → Value) (k : κ) (v : ν) : ∀ (es : List MapEntry) (l : List (κ × ν)) (i : Nat), es.map (fun e => (e.key, e.val)) = fG K g l → l.any (fun p => decide (p.1 = k)) = true →
    ∃ j u, Instr.findNow K.t (K.f k) es i = some (some (i + j, u)) ∧ (es[j]?).map (·.key) = some (K.f k) ∧ (es.modify j fun e => { e with key := K.f k, val := g v }).map (fun e => (e.key, e.val)) = fG K g (aFd l k v)
  | [], [], i, _, h => by simp at h
  | [], _ :: _, i, h, _ => by simp [fG] at h
  | _ :: _, [], i, h, _ => by simp [fG] at h
  | e :: es, q :: l, i, h, ha => by
    simp only [List.map_cons, fG, List.cons.injEq, Prod.mk.injEq] at h
    obtain ⟨⟨h1, h2⟩, h3⟩ := h
    have hn := K.now k q.1
    have hd : (@decide (k = q.1) (K.dec k q.1)) = decide (q.1 = k) := by
      by_cases c : q.1 = k
      · simp [c]
      · have c2 : ¬ k = q.1 := fun h => c h.symm
        simp [c, c2]
    rw [hd] at hn
    have e1 : Instr.findNow K.t (K.f k) (e :: es) i = if decide (q.1 = k) = true then some (some (i, e.val)) else Instr.findNow K.t (K.f k) es (i + 1) := by
      rw [Instr.findNow, h1, hn]
      cases decide (q.1 = k) <;> rfl
    rw [e1]
    by_cases c : q.1 = k
    · refine ⟨0, e.val, by simp [c], by simp [h1, c], ?_⟩
      simp only [List.modify_zero_cons, List.map_cons, aFd, if_pos c, fG]
      rw [h3]
    · have ha2 : l.any (fun p => decide (p.1 = k)) = true := by
        rw [List.any_cons] at ha
        simpa [c] using ha
      obtain ⟨j, u, h4, h5, h6⟩ := aEx g k v es l (i + 1) h3 ha2
      refine ⟨j + 1, u, by simp [c, h4]; omega, by simpa using h5, ?_⟩
      simp only [List.modify_succ_cons, List.map_cons, aFd, if_neg c, fG]
      rw [h6, h1, h2]; rfl
end
section
variable {P:Program} {ρ:Env} {w w0:World} {d:Option Tmp} {x y z:Operand} {t kt et ty:TypeId} {pos:String} {af:Array Edge} {g:Option (Nat×Bool)} {O S:List Nat} {l:List Th} {i b:Nat} {κ ν:Type} {K:Ky κ} {G:ν→Value} {m m':List (κ×ν)} {k:κ} {v:ν}
theorem aEj [DecidableEq κ] (H : Hd O w0 w S l) (i : Nat) (hi : l[i]? = some (.mp b (fG K G m))) (hu : P.underlying t = some (.map kt et)) (hk : P.underlying kt = some K.t) (hx : ev ρ x = .map (some b)) (hy : ev ρ y = K.f k) (hz : ev ρ z = G v) (hp : aFd m k v = m') :
    ∃ w', DoU P ⟨none, .mapUpdate t x y z, ty, pos, af, g⟩ ρ w w' ∧ Hd O w0 w' S (l.set i (.mp b (fG K G m'))) := by
  subst hp
  obtain ⟨es, c, h1, h2⟩ : ∃ (es : Array MapEntry) (c : Nat), w.heap[b]? = some (.map es c) ∧ es.toList.map (fun e => (e.key, e.val)) = fG K G m := H.item hi
  cases ha : m.any (fun p => decide (p.1 = k)) with
  | false =>
    have hf := (nJ K G k es.toList m 0 h2).1 ha
    have hs := MapKept.heap_set (o' := Obj.map (es.push { key := K.f k, val := G v, born := c }) (c + 1)) h1
    refine ⟨{ w with heap := w.heap.setIfInBounds b (.map (es.push { key := K.f k, val := G v, born := c }) (c + 1)) }, ?_, ?_⟩
    · unfold DoU
      have q : (Instr.mapUpdate t (.map (some b)) (K.f k) (G v)).run P w = .ok () { w with heap := w.heap.setIfInBounds b (.map (es.push { key := K.f k, val := G v, born := c }) (c + 1)) } := by
        simp [Instr.mapUpdate, run_underlying hu, MapKept.run_getObj_map h1, MapKept.run_checkKey hk (K.key k) false 9999, MapKept.run_findKey hk hf, MapKept.run_setObj_map _ h1, Result.andThen]
      simp [execOp, hx, hy, hz, q]
    · refine H.turn hi ⟨rfl, rfl, rfl, by simp, fun j hj hn => ?_⟩ (fun _ => ⟨_, _, hs.1, ?_⟩) (fun j hj => ?_) (by simp [Th.blocks])
      · exact hs.2 j (by simpa [Th.blocks] using hn)
      · rw [Array.toList_push, List.map_append, h2, wL k v ha]
        simp [fG]
      · obtain rfl : j = b := by simpa [Th.blocks] using hj
        refine ⟨.inl (by simp [Th.blocks]), ?_⟩
        have := (Array.getElem?_eq_some_iff.1 h1).1
        simpa using this
  | true =>
    obtain ⟨j, u, hf, hkey, hmod⟩ := aEx K G k v es.toList m 0 h2 ha
    rw [Nat.zero_add] at hf
    have hkey' : ((es[j]?).map (·.key)).getD (K.f k) = K.f k := by
      have : (es[j]?).map (·.key) = some (K.f k) := by simpa using hkey
      rw [this]; rfl
    have hs := MapKept.heap_set (o' := Obj.map (es.modify j fun e => { e with key := K.f k, val := G v }) c) h1
    refine ⟨{ w with heap := w.heap.setIfInBounds b (.map (es.modify j fun e => { e with key := K.f k, val := G v }) c) }, ?_, ?_⟩
    · unfold DoU
      have q : (Instr.mapUpdate t (.map (some b)) (K.f k) (G v)).run P w = .ok () { w with heap := w.heap.setIfInBounds b (.map (es.modify j fun e => { e with key := K.f k, val := G v }) c) } := by
        simp [Instr.mapUpdate, run_underlying hu, MapKept.run_getObj_map h1, MapKept.run_checkKey hk (K.key k) false 9999, MapKept.run_findKey hk hf, hkey', MapKept.run_keyThatStays (K.key k), MapKept.run_setObj_map _ h1, Result.andThen]
      simp [execOp, hx, hy, hz, q]
    · refine H.turn hi ⟨rfl, rfl, rfl, by simp, fun j hj hn => ?_⟩ (fun _ => ⟨_, _, hs.1, ?_⟩) (fun j hj => ?_) (by simp [Th.blocks])
      · exact hs.2 j (by simpa [Th.blocks] using hn)
      · rw [Array.toList_modify]; exact hmod
      · obtain rfl : j = b := by simpa [Th.blocks] using hj
        refine ⟨.inl (by simp [Th.blocks]), ?_⟩
        have := (Array.getElem?_eq_some_iff.1 h1).1
        simpa using this
end
end Go.Lf
namespace Go.Mx
open Go.RowKit Go.OB Go.Lf
end Go.Mx
namespace Go.MxM
open Go.RowKit Go.OB Go.Lf
end Go.MxM
