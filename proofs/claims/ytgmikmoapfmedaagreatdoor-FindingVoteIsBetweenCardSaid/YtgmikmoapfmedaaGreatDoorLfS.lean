/- Walks: what each function computes, for every argument; no condition but those that stand in the statements. -/
import Derived.Test.YtgmikmoapfmedaaGreatDoorLfR
import Derived.Defers
import Derived.Recover
import Derived.MapKept
import Derived.Test.YtgmikmoapfmedaaGreatDoorObB
namespace Go.Lf
open Go.RowKit Go.OB
structure jJ (N:Nat)(a:Act)(ρ:Env)(ds:List Deferred):Prop where
  size:a.tmps.size=N
  dfr:a.defers=ds
  get: ∀i,a.tmps.getD i undef=ρ i
theorem jJ.fits {N:Nat}{a:Act}{ρ:Env}{ds:List Deferred}(h:jJ N a ρ ds):Fits N {a with defers:=[]} ρ:=⟨h.size,rfl,h.get⟩
theorem jJ.eval {N:Nat}{a:Act}{ρ:Env}{ds:List Deferred}(h:jJ N a ρ ds):a.eval=ev ρ:=by
  have:=h.fits.eval
  rw [← this]; funext x; cases x<;>rfl
theorem jJ.wanted {N:Nat}{a:Act}{ρ:Env}{ds:List Deferred}(h:jJ N a ρ ds)(ops:Array Oper)(o:Oper):Region.wanted o (yielded ops a.tmps)=fK N ops ρ o:=h.fits.wanted ops o
theorem jJ.put {N:Nat}{a:Act}{ρ:Env}{ds:List Deferred}(h:jJ N a ρ ds){d:Option Tmp}(hd:aBz N d=true)(v:Value):jJ N (a.put d v) (updo ρ d v) ds:=by
  have q:=h.fits.put hd v
  cases d with
  | none=>exact h
  | some d=>exact ⟨q.size,h.dfr,q.get⟩
def liftD (N:Nat)(Q:Exit→List Deferred→Env→World→Prop):Exit→Act→World→Prop:=fun e a w=> ∃ρ ds,jJ N a ρ ds∧Q e ds ρ w
def WPD (P:Program)(N:Nat)(ds:List Deferred)(c:Code)(Q:Exit→List Deferred→Env→World→Prop)(ρ:Env)(w:World):Prop:= ∀a,jJ N a ρ ds→c.wp P (liftD N Q) a w
def RLD (P:Program)(N:Nat)(ops:Array Oper)(ds:List Deferred)(Q:Exit→List Deferred→Env→World→Prop)(l:List Oper)(ρ:Env)(w:World):Prop:= ∀a,jJ N a ρ ds→wpList P ops (liftD N Q) l a w
def thenD (K:List Deferred→Env→World→Prop)(Q:Exit→List Deferred→Env→World→Prop):Exit→List Deferred→Env→World→Prop
  | .normal,ds,ρ,w=>K ds ρ w
  | e,ds,ρ,w=>Q e ds ρ w
section
variable {P:Program} {N:Nat} {Q:Exit→List Deferred→Env→World→Prop} {ρ:Env} {w w':World} {ds:List Deferred} {ops:Array Oper} {o:Oper} {rest:List Oper} {v:Value} {d:Nat} {op:Op} {ty:TypeId} {pos:String} {af:Array Edge} {g:Option (Nat×Bool)}
theorem rW {x y:Code}(h:WPD P N ds x (thenD (fun ds' ρ' w'=>WPD P N ds' y Q ρ' w') Q) ρ w):WPD P N ds (.seq x y) Q ρ w:=by
  intro a ha
  refine wp_seq (wp_mono (h a ha) ?_)
  rintro e a' w' ⟨ρ',ds',hf,hq⟩
  cases e<;>first | exact hq a' hf | exact ⟨ρ',ds',hf,hq⟩
theorem WPD_ret (h:Q .ret ds ρ w):WPD P N ds .ret Q ρ w:=fun _ ha=>wp_ret ⟨ρ,ds,ha,h⟩
theorem jZ {id:Nat}{l:List Oper}(h:RLD P N l.toArray ds Q l ρ w):WPD P N ds (.region id l.toArray false) Q ρ w:=fun a ha=>wp_region_lit (h a ha)
theorem rZ (h:Q .normal ds ρ w):RLD P N ops ds Q [] ρ w:=fun _ ha=>wpList_nil ⟨ρ,ds,ha,h⟩
theorem aAr (hw:fK N ops ρ ⟨some d,op,ty,pos,af,g⟩=true)(hd:Nat.blt d N=true)(h:Do P ⟨some d,op,ty,pos,af,g⟩ ρ w v w')(k:RLD P N ops ds Q rest (upd ρ d v) w'):RLD P N ops ds Q (⟨some d,op,ty,pos,af,g⟩ :: rest) ρ w:=by
  intro a ha
  unfold wpList
  rw [ha.wanted,hw,if_pos rfl]
  refine .inl ?_
  unfold Oper.wp
  rw [ha.eval,show (execOp (ev ρ) _).run P w=_ from h]
  exact k _ (ha.put (xK hd) v)
theorem RLD_ex {R:Value→World→Prop}(hw:fK N ops ρ ⟨some d,op,ty,pos,af,g⟩=true)(hd:Nat.blt d N=true)(h: ∃v w',Do P ⟨some d,op,ty,pos,af,g⟩ ρ w v w'∧R v w')
    (k: ∀v w',R v w'→RLD P N ops ds Q rest (upd ρ d v) w'):RLD P N ops ds Q (⟨some d,op,ty,pos,af,g⟩ :: rest) ρ w:=by
  obtain ⟨v,w',h1,h2⟩:=h; exact aAr hw hd h1 (k v w' h2)
theorem RLD_exU {R:World→Prop}(hw:fK N ops ρ ⟨none,op,ty,pos,af,g⟩=true)(h: ∃w',DoU P ⟨none,op,ty,pos,af,g⟩ ρ w w'∧R w')(k: ∀w',R w'→RLD P N ops ds Q rest ρ w'):RLD P N ops ds Q (⟨none,op,ty,pos,af,g⟩ :: rest) ρ w:=by
  obtain ⟨w',h1,h2⟩:=h
  intro a ha
  unfold wpList
  rw [ha.wanted,hw,if_pos rfl]
  refine .inl ?_
  unfold Oper.wp
  rw [ha.eval,show (execOp (ev ρ) _).run P w=_ from h1]
  exact k _ h2 _ ha
theorem RLD_defer {x:Deferred}(hw:fK N ops ρ ⟨none,op,ty,pos,af,g⟩=true)(h:(execOp (ev ρ) ⟨none,op,ty,pos,af,g⟩).run P w= .ok (.defer x) w)(k:RLD P N ops (x :: ds) Q rest ρ w):RLD P N ops ds Q (⟨none,op,ty,pos,af,g⟩ :: rest) ρ w:=by
  intro a ha
  unfold wpList
  rw [ha.wanted,hw,if_pos rfl]
  refine .inl ?_
  unfold Oper.wp
  rw [ha.eval,h]
  exact k _ ⟨ha.size,congrArg (x :: ·) ha.dfr,ha.get⟩
theorem RLD_call {f:FuncId}{args:Array Value}{R:Ending→World→Prop}(hw:fK N ops ρ ⟨some d,op,ty,pos,af,g⟩=true)(hd:Nat.blt d N=true)(h:DoC P ⟨some d,op,ty,pos,af,g⟩ ρ w f args)
    (hc:Calls P f args w R)(k: ∀e w',R e w'→ ∃v,e= .returned v∧RLD P N ops ds Q rest (upd ρ d v) w'):RLD P N ops ds Q (⟨some d,op,ty,pos,af,g⟩ :: rest) ρ w:=by
  intro a ha
  unfold wpList
  rw [ha.wanted,hw,if_pos rfl]
  refine .inl ?_
  unfold Oper.wp
  rw [ha.eval,show (execOp (ev ρ) _).run P w=_ from h]
  refine hc.mono fun e w'' hR=>?_
  obtain ⟨v,rfl,hk⟩:=k e w'' hR
  exact hk _ (ha.put (xK hd) v)
def postD (P:Program)(fn:Func)(R:Ending→World→Prop):Exit→List Deferred→Env→World→Prop
  | .normal,ds,ρ,w | .ret,ds,ρ,w=> ∀tmps:Array Value,(∀i,tmps.getD i undef=ρ i)→Leaves P fn tmps R ds .returning w
  | .panic chain,ds,ρ,w=> ∀tmps:Array Value,(∀i,tmps.getD i undef=ρ i)→Leaves P fn tmps R ds (.panicking chain) w
  | _,_,_,_=>False
theorem aAa {f : FuncId} {fn : Func} {c : Code} {args : List Value} {R : Ending → World → Prop} (N : Nat)
    (hf : P.funcs[f]? = some fn) (hb : fn.body = some c) (hN : fn.ntmps = N) (hl : Nat.ble args.length N = true)
    (h : WPD P N [] c (postD P fn R) (vN args) w) : Calls P f args.toArray w R := by
  refine calls_of_wp_defers hf hb ?_
  have hl := Nat.le_of_ble_eq_true hl
  subst hN
  have hfit : jJ fn.ntmps { tmps := args.toArray ++ Array.replicate (fn.ntmps - args.toArray.size) undef, defers := [] } (vN args) [] := by
    refine ⟨by simp; omega, rfl, fun i => ?_⟩
    rw [← uC]
    simp only [Array.getD_eq_getD_getElem?, Array.getElem?_append, List.getD_eq_getElem?_getD, List.size_toArray, Array.getElem?_replicate, List.getElem?_toArray]
    split
    · rfl
    · rename_i hi
      rw [List.getElem?_eq_none (by omega)]
      split <;> rfl
  refine wp_mono (h _ hfit) ?_
  rintro e a w ⟨ρ, ds, hf, hq⟩
  cases e <;> simp only [postD] at hq <;> simp only [bodyPostD]
  case normal => rw [hf.dfr]; exact hq _ hf.get
  case ret => rw [hf.dfr]; exact hq _ hf.get
  case panic ch => rw [hf.dfr]; exact hq _ hf.get
theorem aCj {fn:Func}{tmps:Array Value}{R:Ending→World→Prop}{rs:Array ResultVar}(hr:fn.results=rs)(ht: ∀i,tmps.getD i undef=ρ i)(h:mG P rs R .ret ρ w):Leaves P fn tmps R [] .returning w:=by
  subst hr
  obtain ⟨v,h1,h2⟩:=h
  refine ⟨v,?_,h2⟩
  rw [← h1]
  congr 1
  unfold results dB
  simp only [ht]
  rfl
end
section
variable {P:Program} {ρ:Env} {w:World} {d:Option Tmp} {x:Operand} {ty:TypeId} {pos:String} {af:Array Edge} {g:Option (Nat×Bool)}
theorem DoC_bnd {f:FuncId}{args:Array Operand}{at_:Array TypeId}{us first:List Value}(hf:Go.OB.Enters P f)(hx:ev ρ x= .func (.func f) first.toArray #[])(ha:args.toList.map (ev ρ)=us):
    DoC P ⟨d,.call {callee:= .value x,args:=args,argTypes:=at_},ty,pos,af,g⟩ ρ w f (first++us).toArray:=by
  obtain ⟨fn,h1,h2,h3⟩:=hf
  have h2': ¬fn.body=none:=by cases hb:fn.body<;>simp_all
  have h3': ¬fn.name= "runtime.NumGoroutine" :=by simpa using h3
  have h4: ∀as,(callFunc f as).run P w= .ok (.enter f as) w:=by
    intro as; simp [callFunc,Sem.run,h1,h2',h3',program]
  unfold DoC
  have e:args.map (ev ρ)=us.toArray:=by rw [← ha]; apply Array.ext'; simp
  simp only [execOp,resolve,hx,Deferred.ofValue]
  rw [e]
  simp [invoke,h4]
theorem run_defer {f:FuncId}{args:Array Operand}{at_:Array TypeId}{us cap:List Value}(hx:ev ρ x= .func (.func f) #[] cap.toArray)(ha:args.toList.map (ev ρ)=us):
    (execOp (ev ρ) ⟨d,.defer {callee:= .value x,args:=args,argTypes:=at_},ty,pos,af,g⟩).run P w= .ok (.defer {target:= .fn (.func f) cap.toArray,args:=us.toArray}) w:=by
  have e:args.map (ev ρ)=us.toArray:=by rw [← ha]; apply Array.ext'; simp
  simp only [execOp,resolve,hx,Deferred.ofValue]
  rw [e]
  simp
end
end Go.Lf
namespace Go.Lf
open Go.RowKit Go.OB
section
variable {P:Program} {ops:Array Oper} {a:Act} {w:World}
theorem upon_q {o:Oper}{K K':Act→World→Prop}{Q Q':Exit→Act→World→Prop}(hk: ∀a w,K a w→K' a w)(hq: ∀e a w,e≠ .normal→Q e a w→Q' e a w)(h:o.wp P a w K Q):o.wp P a w K' Q':=by
  unfold Oper.wp Oper.upon at *
  split at h<;>first
    | exact hk _ _ h
    | exact hq _ _ _ (by simp) h
    | exact h.elim
    | (refine Calls.mono h fun e w' hr=>?_
       cases e with
       | returned v=>exact hk _ _ hr
       | panicked ch=>exact hq _ _ _ (by simp) hr
       | outgrown=>obtain ⟨a0,w0,h0⟩:=hr; exact ⟨a0,w0,hq _ _ _ (by simp) h0⟩)
    | (intro fr cs; obtain ⟨v,w'',hR,hs⟩:=h fr cs; exact ⟨v,w'',hk _ _ hR,hs⟩)
theorem pI {Q : Exit → Act → World → Prop} : ∀ (l : List Oper) (k : Nat) (a : Act) (w : World), wpList P ops (fun e a w => match e with | .normal => wpList P ops Q (l.drop k) a w | e => Q e a w) (l.take k) a w → wpList P ops Q l a w
  | l, 0, a, w, h => by simpa [wpList] using h
  | [], k + 1, a, w, h => by simpa [wpList] using h
  | o :: l, k + 1, a, w, h => by
    rw [List.take_succ_cons, wpList] at h
    rw [wpList]
    simp only [List.drop_succ_cons] at h
    split at h
    · rename_i hw
      rw [if_pos hw]
      rcases h with h | ⟨h1, a0, w0, h2⟩
      · exact .inl (upon_q (fun a w h => pI l k a w h) (fun e a w he h => by cases e <;> first | exact h | exact absurd rfl he) h)
      · exact .inr ⟨h1, a0, w0, h2⟩
    · rename_i hw
      rw [if_neg hw]
      exact pI l k _ _ h
theorem eH {N : Nat} {Q : Exit → Env → World → Prop} {ρ : Env} {l : List Oper} (k : Nat) (W : List Nat) (S : List (Nat × Value)) (I : World → Prop)
    (h : RL P N ops (mO (fun ρ' w' => Fr W ρ ρ' ∧ Sl ρ' S ∧ I w') Q) (l.take k) ρ w) (kk : ∀ ρ1 w1, I w1 → RL P N ops Q (l.drop k) (over ρ ρ1 W S) w1) : RL P N ops Q l ρ w := by
  intro a ha
  refine pI l k a w ?_
  have mono : ∀ (l1 : List Oper) (a : Act) (w : World), wpList P ops (qJ N (mO (fun ρ' w' => Fr W ρ ρ' ∧ Sl ρ' S ∧ I w') Q)) l1 a w → wpList P ops (fun e a w => match e with | .normal => wpList P ops (qJ N Q) (l.drop k) a w | e => qJ N Q e a w) l1 a w := by
    have nrm : ∀ a w, qJ N (mO (fun ρ' w' => Fr W ρ ρ' ∧ Sl ρ' S ∧ I w') Q) .normal a w → wpList P ops (qJ N Q) (l.drop k) a w := by
      rintro a w ⟨ρ', hf, h1, h2, h3⟩
      have q := kk ρ' w h3
      rw [wX h1 h2] at q
      exact q a hf
    intro l1
    induction l1 with
    | nil => intro a w h; rw [wpList] at h ⊢; exact nrm a w h
    | cons o l1 ih =>
      intro a w h
      rw [wpList] at h ⊢
      split at h
      · rename_i hw
        rw [if_pos hw]
        rcases h with h | ⟨h1, a0, w0, h2⟩
        · exact .inl (upon_q ih (fun e a w he h => by cases e <;> first | exact h | exact absurd rfl he) h)
        · exact .inr ⟨h1, a0, w0, h2⟩
      · rename_i hw
        rw [if_neg hw]
        exact ih _ _ h
  exact mono _ a w (h a ha)
end
theorem meet {W:List Nat}{ρ ρ':Env}{B:Prop}(h:B)(hf:Fr W ρ ρ':=by repeat' (first | with_reducible exact aEu | refine Fr_upd rfl ?_ | refine Fr_over rfl rfl ?_)):Fr W ρ ρ'∧B:=⟨hf,h⟩
theorem gI {α:Type}{a b:α}(h:some a=some b):a=b:=Option.some.inj h
theorem zL {P:Program}{o:Oper}{ρ:Env}{w w':World}{b c:Bool}(h:Do P o ρ w (.bool b) w')(e:b=c):Do P o ρ w (.bool c) w':=e ▸ h
section
variable {P:Program} {N:Nat} {ops:Array Oper} {Q:Exit→Env→World→Prop} {rest:List Oper} {ρ:Env} {w w':World} {v:Value} {d:Nat} {op:Op} {ty:TypeId} {pos:String} {af:Array Edge} {g:Option (Nat×Bool)}
theorem zG (h:Do P ⟨some d,op,ty,pos,af,g⟩ ρ w v w')(k:RL P N ops Q rest (upd ρ d v) w')(hw:fK N ops ρ ⟨some d,op,ty,pos,af,g⟩=true:=by exact rfl)(hd:Nat.blt d N=true:=by exact rfl):RL P N ops Q (⟨some d,op,ty,pos,af,g⟩ :: rest) ρ w:=vH hw hd h k
theorem yH (k:RL P N ops Q rest (upd ρ d undef) w)(hw:fK N ops ρ ⟨some d,op,ty,pos,af,g⟩=false:=by exact rfl)(hd:Nat.blt d N=true:=by exact rfl):RL P N ops Q (⟨some d,op,ty,pos,af,g⟩ :: rest) ρ w:=RL_off hw hd k
theorem zH {x:Operand}(v:Value)(k:RL P N ops Q rest (upd ρ d v) w)(h:ev ρ x=v:=by exact rfl)(hw:fK N ops ρ ⟨some d,.move x,ty,pos,af,g⟩=true:=by exact rfl)(hd:Nat.blt d N=true:=by exact rfl):RL P N ops Q (⟨some d,.move x,ty,pos,af,g⟩ :: rest) ρ w:=vH hw hd (sG h) k
theorem zI {x:Operand}(v:Value)(k:RL P N ops Q rest (upd ρ d v) w)(h:ev ρ x=v:=by exact rfl)(hw:fK N ops ρ ⟨some d,.assign x,ty,pos,af,g⟩=true:=by exact rfl)(hd:Nat.blt d N=true:=by exact rfl):RL P N ops Q (⟨some d,.assign x,ty,pos,af,g⟩ :: rest) ρ w:=vH hw hd (dU h) k
end
end Go.Lf
namespace Go.Lf
open Go.RowKit Go.OB
structure Ky (κ:Type) where
  f:κ→Value
  t:TypeDesc
  key: ∀a,MapKept.IsKey t (f a)
  dec:DecidableEq κ
  now: ∀a b,Instr.sameNow t (f a) (f b)=some (@decide (a=b) (dec a b))
def Ky.int (k:IntKind):Ky Int:=⟨fun a=> .int k a,.int k,fun _=>rfl,inferInstance,fun a b=>by simp [Instr.sameNow,BEq.beq]⟩
def Ky.str:Ky Str:=⟨fun a=> .string (bs a),.string,fun _=>trivial,inferInstance,fun a b=>by
  show some (bs a==bs b)=some (decide (a=b))
  have e:(bs a==bs b)=(a.toArray==b.toArray):=rfl
  rw [e]
  congr 1
  rw [Bool.eq_iff_iff,beq_iff_eq,decide_eq_true_eq]
  exact ⟨fun h=>by simpa using h,fun h=>by rw [h]⟩⟩
section
variable {κ ν:Type} (K:Ky κ)
def mget [DecidableEq κ] (l:List (κ×ν))(k:κ)(z:ν):ν:=match l.find? fun p=>decide (p.1=k) with
  | some p=>p.2
  | none=>z
def mput [DecidableEq κ] (l:List (κ×ν))(k:κ)(v:ν):Option (List (κ×ν)):=if l.any (fun p=>decide (p.1=k))=true then none else some (l++ [(k,v)])
def bK (K:Ky κ)(g:ν→Value)(l:List (κ×ν)):List (Value×Value):=l.map fun p=>(K.f p.1,g p.2)
theorem jW [inst : DecidableEq κ] (g : ν → Value) (k : κ) : ∀ (es : List MapEntry) (l : List (κ × ν)) (i : Nat), es.map (fun e => (e.key, e.val)) = bK K g l →
    (l.any (fun p => decide (p.1 = k)) = false → Instr.findNow K.t (K.f k) es i = some none) ∧ (∀ p, l.find? (fun p => decide (p.1 = k)) = some p → ∃ j, Instr.findNow K.t (K.f k) es i = some (some (j, g p.2)))
  | [], [], i, _ => ⟨fun _ => rfl, fun p h => by simp at h⟩
  | [], _ :: _, i, h => by simp [bK] at h
  | _ :: _, [], i, h => by simp [bK] at h
  | e :: es, q :: l, i, h => by
    simp only [List.map_cons, bK, List.cons.injEq, Prod.mk.injEq] at h
    obtain ⟨⟨h1, h2⟩, h3⟩ := h
    have ih := jW g k es l (i + 1) h3
    have hn := K.now k q.1
    have hd : (@decide (k = q.1) (K.dec k q.1)) = decide (q.1 = k) := by
      by_cases c : q.1 = k
      · simp [c]
      · have c2 : ¬ k = q.1 := fun h => c h.symm
        simp [c, c2]
    rw [hd] at hn
    have e1 : Instr.findNow K.t (K.f k) (e :: es) i = if decide (q.1 = k) = true then some (some (i, e.val)) else Instr.findNow K.t (K.f k) es (i + 1) := by
      rw [Instr.findNow, h1, hn]
      cases decide (q.1 = k) <;> rfl
    rw [e1]
    constructor
    · intro ha
      rw [List.any_cons, Bool.or_eq_false_iff] at ha
      rw [ha.1]
      exact ih.1 ha.2
    · intro p hp
      rw [List.find?_cons] at hp
      cases c : decide (q.1 = k) with
      | true => rw [c] at hp; obtain rfl := Option.some.inj hp; exact ⟨i, by simp [h2]⟩
      | false => rw [c] at hp; obtain ⟨j, hj⟩ := ih.2 p hp; exact ⟨j, by simpa using hj⟩
end
section
variable {P:Program} {ρ:Env} {w w0:World} {d:Option Tmp} {x y z:Operand} {t kt et ty:TypeId} {pos:String} {af:Array Edge} {g:Option (Nat×Bool)} {O S:List Nat} {l:List Th} {i b:Nat} {κ ν:Type} {K:Ky κ} {G:ν→Value} {m m':List (κ×ν)} {k:κ} {v:ν}
theorem Lx_mkmap (H : Hd O w0 w S l) : ∃ v w', Do P ⟨d, .makeMap t none, ty, pos, af, g⟩ ρ w v w' ∧ ∃ b, v = .map (some b) ∧ Hd O w0 w' S (l ++ [.mp b []]) := by
  refine ⟨.map (some w.heap.size), w.alloc (.map #[] 0), ?_, w.heap.size, rfl, ?_⟩
  · unfold Do
    simp [execOp, run_makeMap]
  · refine H.add (Only.of_below (MxM.sees_alloc w _)) (fun _ => ⟨#[], 0, ?_, rfl⟩) (fun b hb => ?_) (by simp [Th.blocks])
    · show (w.heap.push _)[w.heap.size]? = _
      simp
    · obtain rfl : b = w.heap.size := by simpa [Th.blocks] using hb
      refine ⟨Nat.le_refl _, ?_⟩
      show _ < (w.heap.push _).size
      simp
theorem Lx_insert [DecidableEq κ] (H : Hd O w0 w S l) (i : Nat) (hi : l[i]? = some (.mp b (bK K G m))) (hu : P.underlying t = some (.map kt et)) (hk : P.underlying kt = some K.t) (hx : ev ρ x = .map (some b)) (hy : ev ρ y = K.f k) (hz : ev ρ z = G v) (hp : mput m k v = some m') :
    ∃ w', DoU P ⟨none, .insert t x y z, ty, pos, af, g⟩ ρ w w' ∧ Hd O w0 w' S (l.set i (.mp b (bK K G m'))) := by
  unfold mput at hp
  split at hp
  · cases hp
  · rename_i ha
    obtain rfl := Option.some.inj hp
    have ha : m.any (fun p => decide (p.1 = k)) = false := (Bool.not_eq_true _).mp ha
    obtain ⟨es, c, h1, h2⟩ : ∃ (es : Array MapEntry) (c : Nat), w.heap[b]? = some (.map es c) ∧ es.toList.map (fun e => (e.key, e.val)) = bK K G m := H.item hi
    have hf := (jW K G k es.toList m 0 h2).1 ha
    have hs := MapKept.heap_set (o' := Obj.map (es.push { key := K.f k, val := G v, born := c }) (c + 1)) h1
    refine ⟨{ w with heap := w.heap.setIfInBounds b (.map (es.push { key := K.f k, val := G v, born := c }) (c + 1)) }, ?_, ?_⟩
    · unfold DoU
      have q : (Instr.mapUpdate t (.map (some b)) (K.f k) (G v)).run P w = .ok () { w with heap := w.heap.setIfInBounds b (.map (es.push { key := K.f k, val := G v, born := c }) (c + 1)) } := by
        simp [Instr.mapUpdate, run_underlying hu, MapKept.run_getObj_map h1, MapKept.run_checkKey hk (K.key k) false 9999, MapKept.run_findKey hk hf, MapKept.run_setObj_map _ h1, Result.andThen]
      simp [execOp, hx, hy, hz, q]
    · refine H.turn hi ⟨rfl, rfl, rfl, by simp, fun j hj hn => ?_⟩ (fun _ => ⟨_, _, hs.1, ?_⟩) (fun j hj => ?_) (by simp [Th.blocks])
      · exact hs.2 j (by simpa [Th.blocks] using hn)
      · rw [Array.toList_push, List.map_append, h2]
        simp [bK]
      · obtain rfl : j = b := by simpa [Th.blocks] using hj
        refine ⟨.inl (by simp [Th.blocks]), ?_⟩
        have := (Array.getElem?_eq_some_iff.1 h1).1
        simpa using this
theorem wC [DecidableEq κ] {F:Nat→Prop}{zv:ν}(h:Th.holds F w (.mp b (bK K G m)))(hu:P.underlying t=some (.map kt et))(hk:P.underlying kt=some K.t)(hx:ev ρ x= .map (some b))(hy:ev ρ y=K.f k)(hz:(zeroValue et).run P w= .ok (G zv) w):
    Do P ⟨d,.lookup t x y false,ty,pos,af,g⟩ ρ w (G (mget m k zv)) w:=by
  obtain ⟨es,c,h1,h2⟩:=h
  unfold Do
  have q:(Instr.lookup t (.map (some b)) (K.f k) false).run P w= .ok (G (mget m k zv)) w:=by
    have hc: ∀e,(Instr.checkKey e 10000 kt (K.f k)).run P w= .ok () w:=fun e=>MapKept.run_checkKey hk (K.key k) e 9999
    unfold mget
    cases hf:m.find? fun p=>decide (p.1=k) with
    | none=>
      have ha:m.any (fun p=>decide (p.1=k))=false:=by
        rw [List.find?_eq_none] at hf
        rw [List.any_eq_false]
        intro p hp; exact hf p hp
      have hn:=(jW K G k es.toList m 0 h2).1 ha
      simp [Instr.lookup,run_underlying hu,MapKept.run_getObj_map h1,hc,MapKept.run_findKey hk hn,hz,Result.andThen]
    | some p=>
      obtain ⟨j,hn⟩:=(jW K G k es.toList m 0 h2).2 p hf
      simp [Instr.lookup,run_underlying hu,MapKept.run_getObj_map h1,hc,MapKept.run_findKey hk hn,Result.andThen]
  simp [execOp,hx,hy,q]
end
end Go.Lf
namespace Go.Lf
open Go.RowKit Go.OB
def Fz.mp (b:Nat)(m:List (Value×Value)):Fz:=⟨fun F w=>F b∧b<w.heap.size∧ ∃(es:Array MapEntry) (c:Nat),w.heap[b]? =some (.map es c)∧es.toList.map (fun e=>(e.key,e.val))=m,by
  rintro F F' w w' hs ⟨h1,h2,es,c,h3,h4⟩
  have p:=hs b h1 h2
  exact ⟨p.1,(Array.getElem?_eq_some_iff.1 (p.2.trans h3)).1,es,c,p.2.trans h3,h4⟩⟩
section
variable {P:Program} {ρ:Env} {w w0:World} {d:Option Tmp} {x y z:Operand} {t kt et ty u:TypeId} {pos:String} {af:Array Edge} {g:Option (Nat×Bool)} {O S:List Nat} {l:List Th} {i b:Nat} {κ ν:Type} {K:Ky κ} {G:ν→Value} {m m':List (κ×ν)} {k:κ} {v:ν}
def slt (s t:Str):Bool:=Go.Op.bytesLess s t
end
end Go.Lf
namespace Go.Lf
open Go.RowKit Go.OB
theorem yM {β:Type}{b:Bool}{x:Option β}{r:β}(h:gK b none x=some r):b=false∧x=some r:=by
  cases b
  · exact ⟨rfl,h⟩
  · cases h
theorem eX {β:Type}{b:Bool}{x:Option β}{r:β}(h:gK b x none=some r):b=true∧x=some r:=by
  cases b
  · cases h
  · exact ⟨rfl,h⟩
section
variable {P:Program} {N:Nat} {ops:Array Oper} {Q:Exit→Env→World→Prop} {rest:List Oper} {ρ:Env} {w:World} {d:Nat} {ty:TypeId} {pos:String} {af:Array Edge} {g:Option (Nat×Bool)} {b:Bool} {x:Operand} {y z:Code}
theorem xM (c:b=false)(k:WP P N z Q ρ w)(hc:ev ρ x= .bool b:=by exact rfl):WP P N (.cond x y z) Q ρ w:=qY (hc.trans (congrArg Value.bool c)) k
theorem kF (c:b=true)(k:WP P N y Q ρ w)(hc:ev ρ x= .bool b:=by exact rfl):WP P N (.cond x y z) Q ρ w:=WP_ift (hc.trans (congrArg Value.bool c)) k
theorem dL (c:Bool)(e:b=c)(k:RL P N ops Q rest (upd ρ d (.bool c)) w)(hx:ev ρ x= .bool b:=by exact rfl)(hw:fK N ops ρ ⟨some d,.move x,ty,pos,af,g⟩=true:=by exact rfl)(hd:Nat.blt d N=true:=by exact rfl):RL P N ops Q (⟨some d,.move x,ty,pos,af,g⟩ :: rest) ρ w:=vH hw hd (sG (hx.trans (congrArg Value.bool e))) k
end
end Go.Lf
namespace Go.Mx
open Go.RowKit Go.OB Go.Lf
end Go.Mx
namespace Go.MxM
open Go.RowKit Go.OB Go.Lf
end Go.MxM
namespace Go.Lf
open Go.RowKit Go.OB
section own
variable {w w':World} {e s n:Nat} {v:Value} {xs:List Value}
def OwO (w:World)(e:TypeId)(s:Nat)(v:Value)(n:Nat)(xs:List Value):Prop:=
  xs.length=n * s∧((v= .slice none 0 0∧n=0)∨ ∃g o cap cur,v= .slice (some ⟨g,o,none⟩) n cap∧Blk w g cur e∧n≤cap∧cap≤maxLen∧o+cap * s≤cur.length∧(cur.drop o).take (n * s)=xs)
theorem OwO.same (h:OwO w e s v n xs)(hb: ∀b ∈ ob v,w'.heap[b]? =w.heap[b]?):OwO w' e s v n xs:=by
  refine ⟨h.1,h.2.imp id ?_⟩
  rintro ⟨g,o,cap,cur,rfl,h2,h3⟩
  exact ⟨g,o,cap,cur,rfl,sN h2 (hb g (by simp [ob,bU])),h3⟩
theorem OwO.slr (h:OwO w e s v n xs):SlR w v s n xs:=by
  refine ⟨h.1,h.2.imp id ?_⟩
  rintro ⟨g,o,cap,cur,rfl,h2,h3,h4,h5,h6⟩
  exact ⟨⟨g,o,none⟩,cap,rfl,h3,h4,fun _=>rfl,h2.part h6⟩
theorem OwO.one (h:OwO w e s v n xs):v.oneCell'=true:=SlR.one h.slr
theorem OwO.lt (h : OwO w e s v n xs) : ∀ b ∈ ob v, b < w.heap.size := by
  rcases h.2 with ⟨rfl, _⟩ | ⟨g, o, cap, cur, rfl, h2, _⟩
  · simp [ob, bU]
  · intro b hb
    obtain rfl : b = g := by simpa [ob, bU] using hb
    exact h2.lt
theorem OwO.nil:OwO w e s (.slice none 0 0) 0 []:=⟨by simp,.inl ⟨rfl,rfl⟩⟩
end own
section rt
variable {α β:Type} {F F':Nat→Prop} {w w':World}
def Rt.pair (a:Rt α)(b:Rt β):Rt (α×β):=
  ⟨a.sz+b.sz,fun F w cs bs x=> ∃c d b1 b2,cs=c++d∧bs=b1++b2∧a.rd F w c b1 x.1∧b.rd F w d b2 x.2,
   fun ⟨c,d,b1,b2,e,e2,h1,h2⟩=>by subst e; simp [a.len h1,b.len h2],
   fun ⟨c,d,b1,b2,e,e2,h1,h2⟩=>by subst e; intro v hv; exact (List.mem_append.1 hv).elim (a.one h1 v) (b.one h2 v),
   fun hs hb ⟨c,d,b1,b2,e,e2,h1,h2⟩=>⟨c,d,b1,b2,e,e2,a.mono hs (fun x hx=>hb x (by rw [e2]; exact List.mem_append_left _ hx)) h1,b.mono hs (fun x hx=>hb x (by rw [e2]; exact List.mem_append_right _ hx)) h2⟩⟩
def Rt.iso (a:Rt α)(f:β→α):Rt β:=⟨a.sz,fun F w cs bs x=>a.rd F w cs bs (f x),fun h=>a.len h,fun h=>a.one h,fun hs hb h=>a.mono hs hb h⟩
def elH (r:Rt α)(F:Nat→Prop)(w:World)(c:List Value)(b:List Nat)(x:α):Option (List Value)→Prop
  | none=>r.rd F w c b x
  | some c0=>c=c0∧b= []∧c.length=r.sz∧ ∀v ∈ c,v.oneCell'=true
abbrev Hol:=List (Nat×List Value)
theorem elH.len {r:Rt α}{c:List Value}{b:List Nat}{x:α}{o:Option (List Value)}(h:elH r F w c b x o):c.length=r.sz:=by
  cases o with
  | none=>exact r.len h
  | some c0=>exact h.2.2.1
theorem elH.one {r:Rt α}{c:List Value}{b:List Nat}{x:α}{o:Option (List Value)}(h:elH r F w c b x o): ∀v ∈ c,v.oneCell'=true:=by
  cases o with
  | none=>exact r.one h
  | some c0=>exact h.2.2.2
theorem elH.mono {r:Rt α}{c:List Value}{b:List Nat}{x:α}{o:Option (List Value)}(hs:Same F F' w w')(hb: ∀k ∈ b,w'.heap[k]? =w.heap[k]?)(h:elH r F w c b x o):elH r F' w' c b x o:=by
  cases o with
  | none=>exact r.mono hs hb h
  | some c0=>exact h
end rt
section hd
variable {P:Program} {ρ:Env} {w w0 w1:World} {d:Option Tmp} {x y z:Operand} {t u ty e:TypeId} {pos:String} {af:Array Edge} {g:Option (Nat×Bool)}
variable {v:Value} {b o i n c s m:Nat} {k k':IntKind} {cs xs vs:List Value} {bs:List Nat} {T:TypeId} {O S:List Nat} {l:List Th} {α β:Type} {r:Rp α} {R:Rt α} {D:Hol} {xl yl zl:List α} {a:α} {j q:Int} {F:Nat→Prop}
end hd
end Go.Lf
namespace Go.Lf
open Go.RowKit Go.OB
end Go.Lf
