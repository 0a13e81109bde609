/- Walks: what each function computes, for every argument; no condition but those that stand in the statements. -/
import Derived.WalkKit
import Derived.WalkSpells
import Derived.WalkLawsBesides
import Derived.Deep.Quiet
namespace Go.OB
open Go.RowKit

abbrev Env:=Nat→Value
def upd (ρ:Env)(d:Nat)(v:Value):Env:=fun i=>if i=d then v else ρ i
def updo (ρ:Env):Option Tmp→Value→Env
  | some d,v=>upd ρ d v
  | none,_=>ρ
def ev (ρ:Env):Operand→Value
  | .tmp t=>ρ t
  | .const v=>v
  | .global g=> .pointer (some ⟨g,0,none⟩)
  | .func f=> .func (.func f) #[] #[]
def aOb (N:Nat):Option Tmp→Bool
  | some d=>decide (d<N)
  | none=>true

structure Fits (N:Nat)(a:Act)(ρ:Env):Prop where
  size:a.tmps.size=N
  dfr:a.defers= []
  get: ∀i,a.tmps.getD i undef=ρ i

theorem Fits.eval {N:Nat}{a:Act}{ρ:Env}(h:Fits N a ρ):a.eval=ev ρ:=by
 funext x;cases x<;>simp only [Act.eval,ev,h.get]

theorem Fits.put {N:Nat}{a:Act}{ρ:Env}(h:Fits N a ρ){d:Option Tmp}(hd:aOb N d=true)(v:Value):
    Fits N (a.put d v) (updo ρ d v):=by
  cases d with
  | none=>exact h
  | some d=>
    have hd':d<a.tmps.size:=by rw [h.size]; simpa [aOb] using hd
    refine ⟨by simp [Act.put,h.size],by simp [Act.put,h.dfr],fun i=>?_⟩
    show (a.tmps.setIfInBounds d v).getD i undef=upd ρ d v i
    unfold upd
    rw [← h.get i]
    simp only [Array.getD_eq_getD_getElem?,Array.getElem?_setIfInBounds]
    by_cases hi:i=d
    · subst hi; simp [hd']
    · simp [hi,Ne.symm hi]

def uP (N:Nat)(Q:Exit→Env→World→Prop):Exit→Act→World→Prop:=fun e a w=> ∃ρ,Fits N a ρ∧Q e ρ w

def WP (P:Program)(N:Nat)(c:Code)(Q:Exit→Env→World→Prop)(ρ:Env)(w:World):Prop:=
  ∀a,Fits N a ρ→c.wp P (uP N Q) a w

def sO (K:Env→World→Prop)(Q:Exit→Env→World→Prop):Exit→Env→World→Prop
  | .normal,ρ,w=>K ρ w
  | e,ρ,w=>Q e ρ w

def uZ (id:Nat)(Q:Exit→Env→World→Prop):Exit→Env→World→Prop
  | .exit id',ρ,w=>if id'=id then Q .normal ρ w else Q (.exit id') ρ w
  | e,ρ,w=>Q e ρ w

section wp
variable {P:Program} {N:Nat} {Q:Exit→Env→World→Prop} {ρ:Env} {w:World}

theorem WP.mono {c:Code}{Q':Exit→Env→World→Prop}(h:WP P N c Q ρ w)(hq: ∀e ρ w,Q e ρ w→Q' e ρ w):WP P N c Q' ρ w:=
  fun a ha=>wp_mono (h a ha) fun _ _ _ ⟨ρ,hf,hx⟩=>⟨ρ,hf,hq _ _ _ hx⟩

theorem WP_seq {x y:Code}{K:Env→World→Prop}(h:WP P N x (sO K Q) ρ w)(hK: ∀ρ w,K ρ w→WP P N y Q ρ w):WP P N (.seq x y) Q ρ w:=by
  intro a ha
  refine wp_seq (wp_mono (h a ha) ?_)
  rintro e a' w' ⟨ρ',hf,hq⟩
  cases e<;>first | exact hK _ _ hq a' hf | exact ⟨ρ',hf,hq⟩

theorem zB {x y:Code}(h: ∀K:Env→World→Prop,(∀ρ w,WP P N y Q ρ w→K ρ w)→WP P N x (sO K Q) ρ w):WP P N (.seq x y) Q ρ w:=
  WP_seq (h _ fun _ _ h=>h) fun _ _ h=>h

theorem yM (h:Q .normal ρ w):WP P N .skip Q ρ w:=fun _ ha=>wp_skip ⟨ρ,ha,h⟩
theorem yV {id:Nat}(h:Q (.exit id) ρ w):WP P N (.exit id) Q ρ w:=fun _ ha=>wp_exit ⟨ρ,ha,h⟩
theorem zN (h:Q .ret ρ w):WP P N .ret Q ρ w:=fun _ ha=>wp_ret ⟨ρ,ha,h⟩

theorem zQ {id:Nat}{c:Code}(h:WP P N c (uZ id Q) ρ w):WP P N (.block id c) Q ρ w:=by
  intro a ha
  refine wp_block (wp_mono (h a ha) ?_)
  rintro e a' w' ⟨ρ',hf,hq⟩
  cases e with
  | exit id'=>
    simp only [uZ] at hq
    simp only [Exit.inBlock]
    split
    · rename_i hid; rw [if_pos hid] at hq; exact ⟨ρ',hf,hq⟩
    · rename_i hid; rw [if_neg hid] at hq; exact ⟨ρ',hf,hq⟩
  | _=>exact ⟨ρ',hf,hq⟩

theorem aJw {c:Operand}{x y:Code}{p:Prop} [Decidable p] (hc:ev ρ c= .bool (decide p))(ht:p→WP P N x Q ρ w)(hf: ¬p→WP P N y Q ρ w):WP P N (.cond c x y) Q ρ w:=by
 intro a ha;refine wp_cond_split (t:=decide p) (by rw [ha.eval]; exact hc) (fun h=>ht (by simpa using h) a ha) (fun h=>hf (by simpa using h) a ha)

theorem vT {c:Operand}{x y:Code}{b:Bool}(hc:ev ρ c= .bool b)(ht:b=true→WP P N x Q ρ w)(hf:b=false→WP P N y Q ρ w):WP P N (.cond c x y) Q ρ w:=by
 intro a ha;exact wp_cond_split (t:=b) (by rw [ha.eval]; exact hc) (fun h=>ht h a ha) (fun h=>hf h a ha)

theorem zD {K:Env→World→Prop}(h:K ρ w):sO K Q .normal ρ w:=h
theorem zJ {K:Env→World→Prop}(h:Q .ret ρ w):sO K Q .ret ρ w:=h
theorem yA {K:Env→World→Prop}{i:Nat}(h:Q (.exit i) ρ w):sO K Q (.exit i) ρ w:=h
theorem yC {id:Nat}(h:Q .normal ρ w):uZ id Q .normal ρ w:=h
theorem zS {id:Nat}(h:Q .ret ρ w):uZ id Q .ret ρ w:=h
theorem yI {id:Nat}(h:Q .normal ρ w):uZ id Q (.exit id) ρ w:=by simp only [uZ,if_true]; exact h
theorem blockQ_x {id i:Nat}(hne:Nat.beq i id=false)(h:Q (.exit i) ρ w):uZ id Q (.exit i) ρ w:=by
 simp only [uZ]; rw [if_neg (fun e=>by rw [e] at hne; simp at hne)]; exact h

theorem wp_loop_ghost {c:Code}{G:Type}{Q:Exit→Act→World→Prop}{a:Act}{w:World}(I:G→Act→World→Prop)(μ:G→Nat)(g:G)(h₀:I g a w)
    (round: ∀g a w,I g a w→c.wp P (Exit.then (fun a' w'=> ∃g',I g' a' w'∧μ g'<μ g) Q) a w):(Code.loop c).wp P Q a w:=by
  intro b k cs
  have key: ∀n g a w,μ g=n→I g a w→
      ∃e a' w',Q e a' w'∧Arrives P (lone (b.at a (.code c :: .inLoop c :: k)) cs w) b k cs e a' w':=by
    intro n
    induction n using Nat.strongRecOn with
    | _ n ih=>
      intro g a w hn hI
      obtain ⟨e,a₁,w₁,hq,harr⟩:=round g a w hI b (.inLoop c :: k) cs
      cases e with
      | normal=>
        obtain ⟨g₁,hI₁,hlt⟩:=hq
        obtain ⟨e₂,a₂,w₂,hq₂,harr₂⟩:=ih (μ g₁) (hn ▸ hlt) g₁ a₁ w₁ rfl hI₁
        exact ⟨e₂,a₂,w₂,hq₂,.of_steps (Steps.trans harr (.one step_inLoop)) harr₂⟩
      | exit id=>exact ⟨_,a₁,w₁,hq,.pass (x:= .inLoop c) rfl (fun _ _=> .inl (by simp)) harr⟩
      | goto l=>exact ⟨_,a₁,w₁,hq,.pass (x:= .inLoop c) rfl (fun _ _=> .inl (by simp)) harr⟩
      | ret=>exact ⟨_,a₁,w₁,hq,.pass (x:= .inLoop c) rfl (fun _ _=> .inl (by simp)) harr⟩
      | panic ch=>exact ⟨_,a₁,w₁,hq,.pass (x:= .inLoop c) rfl (fun _ _=> .inl (by simp)) harr⟩
      | outgrown=>exact ⟨_,a₁,w₁,hq,.pass (x:= .inLoop c) rfl (fun _ _=> .inl (by simp)) harr⟩
  obtain ⟨e,a',w',hq,harr⟩:=key _ g a w rfl h₀
  exact ⟨e,a',w',hq,.of_steps (.one step_loop) harr⟩

theorem WP_loopg {c:Code}{G:Type}(I:G→Env→World→Prop)(μ:G→Nat)(g:G)(h₀:I g ρ w)
    (round: ∀g ρ w,I g ρ w→WP P N c (sO (fun ρ' w'=> ∃g',I g' ρ' w'∧μ g'<μ g) Q) ρ w):WP P N (.loop c) Q ρ w:=by
  intro a ha
  refine wp_loop_ghost (fun g a w=> ∃ρ,Fits N a ρ∧I g ρ w) μ g ⟨ρ,ha,h₀⟩ ?_
  rintro g a w ⟨ρ,hf,hI⟩
  refine wp_mono (round g ρ w hI a hf) ?_
  rintro e a' w' ⟨ρ',hf',hq⟩
  cases e with
  | normal=>obtain ⟨g',hI',hlt⟩:=hq; exact ⟨g',⟨ρ',hf',hI'⟩,hlt⟩
  | _=>exact ⟨ρ',hf',hq⟩
end wp

def aOg:List Value→Env
  | [],_=>undef
  | v :: _,0=>v
  | _ :: l,i+1=>aOg l i

theorem aNc: ∀(l:List Value) (i:Nat),l.getD i undef=aOg l i
  | [],i=>by simp [aOg]
  | v :: l,0=>by simp [aOg]
  | v :: l,i+1=>by
    have:=aNc l i
    simpa [aOg] using this

def aU (rs:Array ResultVar)(ρ:Env):Sem Value:=do
  let vs ← rs.mapM fun
    | .tmp t=>pure (ρ t)
    | .cell a t=>do loadVar t (← asAddr (ρ a))
  pure (if h:vs.size=1 then vs[0] else .tuple vs)

theorem aEv {fn:Func}{a:Act}{N:Nat}{ρ:Env}(h:Fits N a ρ):results fn a.tmps=aU fn.results ρ:=by
 unfold results aU;simp only [h.get];rfl

def aEp (P:Program)(rs:Array ResultVar)(R:Ending→World→Prop):Exit→Env→World→Prop
  | .normal,ρ,w | .ret,ρ,w=> ∃v,(aU rs ρ).run P w= .ok v w∧R (.returned v) w
  | .panic chain,_,w=>R (.panicked chain) w
  | _,_,_=>False

theorem jS {P : Program} {f : FuncId} {fn : Func} {c : Code} {args : List Value} {w : World} {R : Ending → World → Prop} (N : Nat)
    (hf : P.funcs[f]? = some fn) (hb : fn.body = some c) (hN : fn.ntmps = N) (hl : Nat.ble args.length N = true)
    (h : WP P N c (aEp P fn.results R) (aOg args) w) : Calls P f args.toArray w R := by
  refine calls_of_wp hf hb ?_
  have hl := Nat.le_of_ble_eq_true hl
  subst hN
  have hfit : Fits fn.ntmps { tmps := args.toArray ++ Array.replicate (fn.ntmps - args.toArray.size) undef, defers := [] } (aOg args) := by
    refine ⟨by simp; omega, rfl, fun i => ?_⟩
    rw [← aNc]
    simp only [Array.getD_eq_getD_getElem?, Array.getElem?_append, List.getD_eq_getElem?_getD, List.size_toArray, Array.getElem?_replicate, List.getElem?_toArray]
    split
    · rfl
    · rename_i hi
      rw [List.getElem?_eq_none (by omega)]
      split <;> rfl
  refine wp_mono (h _ hfit) ?_
  rintro e a w ⟨ρ, hf, hq⟩
  cases e <;> simp only [aEp] at hq <;> simp only [bodyPost]
  case normal => obtain ⟨v, h1, h2⟩ := hq; exact ⟨hf.dfr, v, by rw [aEv hf]; exact h1, h2⟩
  case ret => obtain ⟨v, h1, h2⟩ := hq; exact ⟨hf.dfr, v, by rw [aEv hf]; exact h1, h2⟩
  case panic ch => exact ⟨hf.dfr, hq⟩

section res
variable {P:Program} {ρ:Env} {w:World} {R:Ending→World→Prop}
theorem ret0 (h:R (.returned (.tuple #[])) w): ∃v,(aU #[] ρ).run P w= .ok v w∧R (.returned v) w:=
  ⟨_,by simp [aU],h⟩
theorem ret1 {t:Tmp}(h:R (.returned (ρ t)) w): ∃v,(aU #[.tmp t] ρ).run P w= .ok v w∧R (.returned v) w:=
  ⟨_,by simp [aU],h⟩
theorem ret2 {t u:Tmp}(h:R (.returned (.tuple #[ρ t,ρ u])) w): ∃v,(aU #[.tmp t,.tmp u] ρ).run P w= .ok v w∧R (.returned v) w:=
  ⟨_,by simp [aU],h⟩
theorem retc1 {t:Tmp}{ty:TypeId}{a:Addr}{v:Value}(ha:ρ t= .pointer (some a))(hl:(loadVar ty a).run P w= .ok v w)(h:R (.returned v) w):
    ∃v,(aU #[.cell t ty] ρ).run P w= .ok v w∧R (.returned v) w:=
  ⟨_,by simp [aU,ha,asAddr,hl],h⟩
theorem retc1t1 {t u:Tmp}{ty:TypeId}{a:Addr}{v:Value}(ha:ρ t= .pointer (some a))(hl:(loadVar ty a).run P w= .ok v w)(h:R (.returned (.tuple #[v,ρ u])) w):
    ∃v,(aU #[.cell t ty,.tmp u] ρ).run P w= .ok v w∧R (.returned v) w:=
  ⟨_,by simp [aU,ha,asAddr,hl],h⟩
variable {rs:Array ResultVar} {v1 v2 v3:Value} {t u x:Tmp} {ty:TypeId} {a:Addr} {v:Value}
theorem mO (hr:rs= #[])(h:R (.returned (.tuple #[])) w):aEp P rs R .normal ρ w:=by subst hr; exact ret0 h
theorem gW (hr:rs= #[.tmp t])(h1:ρ t=v1)(h:R (.returned v1) w):aEp P rs R .ret ρ w:=by subst hr h1; exact ret1 h
theorem bT (hr:rs= #[.tmp t,.tmp u])(h1:ρ t=v1)(h2:ρ u=v2)(h:R (.returned (.tuple #[v1,v2])) w):aEp P rs R .ret ρ w:=by subst hr h1 h2; exact ret2 h
theorem postc (hr:rs= #[.cell t ty])(ha:ρ t= .pointer (some a))(hl:(loadVar ty a).run P w= .ok v w)(h:R (.returned v) w):aEp P rs R .ret ρ w:=by subst hr; exact retc1 ha hl h
theorem dX (hr:rs= #[.cell t ty,.tmp u])(ha:ρ t= .pointer (some a))(hl:(loadVar ty a).run P w= .ok v w)(h1:ρ u=v1)(h:R (.returned (.tuple #[v,v1])) w):aEp P rs R .ret ρ w:=by subst hr h1; exact retc1t1 ha hl h
end res

def dA (N:Nat)(ops:Array Oper)(ρ:Env)(o:Oper):Bool:=
  match o.guard with
  | none=>true
  | some (j,b)=>match (ops[j]?).bind (·.dst) with
    | some d=>decide (d<N) && (match ρ d with | .bool x=>x==b | _=>false)
    | none=>false

theorem Fits.wanted {N : Nat} {a : Act} {ρ : Env} (h : Fits N a ρ) (ops : Array Oper) (o : Oper) : Region.wanted o (yielded ops a.tmps) = dA N ops ρ o := by
  unfold Region.wanted dA yielded
  cases o.guard with
  | none => rfl
  | some jb =>
    obtain ⟨j, b⟩ := jb
    simp only
    cases hd : (ops[j]?).bind (·.dst) with
    | none => simp
    | some d =>
      simp only [Option.bind_some]
      by_cases hlt : d < N
      · have h1 : a.tmps[d]? = some (ρ d) := by
          have := h.get d
          rw [Array.getD_eq_getD_getElem?] at this
          rw [Array.getElem?_eq_getElem (by rw [h.size]; exact hlt)] at this ⊢
          simpa using this
        rw [h1]
        simp only [hlt, decide_true, Bool.true_and]
        cases ρ d <;> simp
      · have h1 : a.tmps[d]? = none := Array.getElem?_eq_none (by rw [h.size]; exact Nat.not_lt.mp hlt)
        rw [h1]
        simp [hlt]

def RL (P:Program)(N:Nat)(ops:Array Oper)(Q:Exit→Env→World→Prop)(l:List Oper)(ρ:Env)(w:World):Prop:=
  ∀a,Fits N a ρ→wpList P ops (uP N Q) l a w

def Do (P:Program)(o:Oper)(ρ:Env)(w:World)(v:Value)(w':World):Prop:=(execOp (ev ρ) o).run P w= .ok (.value v) w'
def DoU (P:Program)(o:Oper)(ρ:Env)(w:World)(w':World):Prop:=(execOp (ev ρ) o).run P w= .ok .skip w'
def DoC (P:Program)(o:Oper)(ρ:Env)(w:World)(f:FuncId)(args:Array Value):Prop:=(execOp (ev ρ) o).run P w= .ok (.enter f args) w

section rl
variable {P:Program} {N:Nat} {ops:Array Oper} {Q:Exit→Env→World→Prop} {o:Oper} {rest:List Oper} {ρ:Env} {w w':World} {v:Value} {d:Nat} {op:Op} {ty:TypeId} {pos:String} {af:Array Edge} {g:Option (Nat×Bool)}

theorem zA {id:Nat}{l:List Oper}(h:RL P N l.toArray Q l ρ w):WP P N (.region id l.toArray false) Q ρ w:=
  fun a ha=>wp_region_lit (h a ha)

theorem zK (h:Q .normal ρ w):RL P N ops Q [] ρ w:=fun _ ha=>wpList_nil ⟨ρ,ha,h⟩

theorem wC (hd:Nat.blt d N=true):aOb N (some d)=true:=by
 have h:d+1≤N:=by simpa [Nat.blt] using hd
 simp only [aOb,decide_eq_true_eq]; exact Nat.lt_of_succ_le h

theorem wI (hw:dA N ops ρ ⟨some d,op,ty,pos,af,g⟩=true)(hd:Nat.blt d N=true)(h:Do P ⟨some d,op,ty,pos,af,g⟩ ρ w v w')(k:RL P N ops Q rest (upd ρ d v) w'):RL P N ops Q (⟨some d,op,ty,pos,af,g⟩ :: rest) ρ w:=by
 intro a ha;unfold wpList;rw [ha.wanted,hw,if_pos rfl];refine .inl ?_;unfold Oper.wp;rw [ha.eval,show (execOp (ev ρ) _).run P w=_ from h];exact k _ (ha.put (wC hd) v)

theorem RL_doU (hw:dA N ops ρ ⟨none,op,ty,pos,af,g⟩=true)(h:DoU P ⟨none,op,ty,pos,af,g⟩ ρ w w')(k:RL P N ops Q rest ρ w'):RL P N ops Q (⟨none,op,ty,pos,af,g⟩ :: rest) ρ w:=by
 intro a ha;unfold wpList;rw [ha.wanted,hw,if_pos rfl];refine .inl ?_;unfold Oper.wp;rw [ha.eval,show (execOp (ev ρ) _).run P w=_ from h];exact k _ ha
theorem RL_off (hw:dA N ops ρ ⟨some d,op,ty,pos,af,g⟩=false)(hd:Nat.blt d N=true)(k:RL P N ops Q rest (upd ρ d undef) w):RL P N ops Q (⟨some d,op,ty,pos,af,g⟩ :: rest) ρ w:=by
 intro a ha;unfold wpList;rw [ha.wanted,hw,if_neg (by simp)];exact k _ (ha.put (wC hd) _)

theorem yJ {f:FuncId}{args:Array Value}{R:Ending→World→Prop}(hw:dA N ops ρ ⟨some d,op,ty,pos,af,g⟩=true)(hd:Nat.blt d N=true)(h:DoC P ⟨some d,op,ty,pos,af,g⟩ ρ w f args)
    (hc:Calls P f args w R)(k: ∀e w',R e w'→ ∃v,e= .returned v∧RL P N ops Q rest (upd ρ d v) w'):RL P N ops Q (⟨some d,op,ty,pos,af,g⟩ :: rest) ρ w:=by
 intro a ha;unfold wpList;rw [ha.wanted,hw,if_pos rfl];refine .inl ?_;unfold Oper.wp;rw [ha.eval,show (execOp (ev ρ) _).run P w=_ from h];refine hc.mono fun e w'' hR=>?_;obtain ⟨v,rfl,hk⟩:=k e w'' hR;exact hk _ (ha.put (wC hd) v)
theorem aKj {b:Bool}{x:Operand}(hw:dA N ops ρ ⟨some d,.move x,ty,pos,af,g⟩=true)(hd:Nat.blt d N=true)(hx:ev ρ x= .bool b)
    (ht:b=true→RL P N ops Q rest (upd ρ d (.bool true)) w)(hf:b=false→RL P N ops Q rest (upd ρ d (.bool false)) w):RL P N ops Q (⟨some d,.move x,ty,pos,af,g⟩ :: rest) ρ w:=by
 refine wI (v:= .bool b) (w':=w) hw hd (by unfold Do; simp [execOp,hx]) ?_;cases b;exact hf rfl;exact ht rfl

def fJ (w w':World):Prop:=Below w.heap.size w w'

variable {K:Env→Prop}
end rl

def aQw:List (Nat×Value)→Nat→Option Value
  | [],_=>none
  | (j,v) :: l,i=>if i=j then some v else aQw l i
def Sl (ρ:Env)(l:List (Nat×Value)):Prop:= ∀i v,aQw l i=some v→ρ i=v
def over (ρ₀ ρ:Env)(W:List Nat)(l:List (Nat×Value)):Env:=fun i=>
  match aQw l i with
  | some v=>v
  | none=>if W.contains i then ρ i else ρ₀ i
def Fr (W:List Nat)(ρ₀ ρ:Env):Prop:= ∀i,W.contains i=false→ρ i=ρ₀ i

theorem yK {ρ:Env}:Sl ρ []:=fun i v h=>by simp [aQw] at h
theorem zV {ρ:Env}{j:Nat}{v:Value}{l:List (Nat×Value)}(h:ρ j=v)(hl:Sl ρ l):Sl ρ ((j,v) :: l):=by
 intro i u hu;unfold aQw at hu;split at hu;rename_i hi; subst hi; cases hu; exact h;exact hl i u hu
theorem aKp {ρ₀ ρ : Env} {W : List Nat} {l : List (Nat × Value)} (hf : Fr W ρ₀ ρ) (hs : Sl ρ l) : over ρ₀ ρ W l = ρ := by
 funext i;unfold over;split;rename_i v hv; exact (hs i v hv).symm;split;rfl;rename_i h; exact (hf i (by simpa using h)).symm
theorem aFy {W:List Nat}{ρ:Env}:Fr W ρ ρ:=fun _ _=>rfl
theorem aQj {W:List Nat}{ρ₀ ρ:Env}{d:Nat}{v:Value}(hd:W.contains d=true)(h:Fr W ρ₀ ρ):Fr W ρ₀ (upd ρ d v):=by
 intro i hi;unfold upd;rw [if_neg (fun e=>by subst e; rw [hd] at hi; cases hi)];exact h i hi
theorem aKd {W:List Nat}: ∀{l:List (Nat×Value)} {i:Nat},(l.all fun p=>W.contains p.1)=true→W.contains i=false→aQw l i=none
  | [],_,_,_=>rfl
  | (j,v) :: l,i,hl,hi=>by
    simp only [List.all_cons,Bool.and_eq_true] at hl
    unfold aQw
    rw [if_neg (fun e=>by subst e; rw [hl.1] at hi; cases hi)]
    exact aKd hl.2 hi
theorem aLz {W W':List Nat}{ρ₀ ρ ρ₁:Env}{l:List (Nat×Value)}(hk:(l.all fun p=>W.contains p.1)=true)(hw:(W'.all fun i=>W.contains i)=true)(h:Fr W ρ₀ ρ):Fr W ρ₀ (over ρ ρ₁ W' l):=by
  intro i hi
  unfold over
  rw [aKd hk hi]
  simp only
  have hc:W'.contains i=false:=by
    cases h':W'.contains i with
    | false=>rfl
    | true=>
      have hm:i ∈ W':=by simpa using h'
      have:=List.all_eq_true.1 hw i hm
      rw [this] at hi; cases hi
  rw [hc]
  exact h i hi

section loops
variable {P:Program} {N:Nat} {Q:Exit→Env→World→Prop} {ρ:Env} {w:World}
theorem yR {c:Code}{G:Type}(W:List Nat)(S:G→List (Nat×Value))(I:G→World→Prop)(μ:G→Nat)(g:G)(hs:Sl ρ (S g))(hI:I g w)
    (round: ∀g ρ₁ w,I g w→WP P N c (sO (fun ρ' w'=>Fr W ρ ρ'∧ ∃g',Sl ρ' (S g')∧I g' w'∧μ g'<μ g) Q) (over ρ ρ₁ W (S g)) w):WP P N (.loop c) Q ρ w:=by
  refine WP_loopg (fun g ρ' w=>Fr W ρ ρ'∧Sl ρ' (S g)∧I g w) μ g ⟨aFy,hs,hI⟩ ?_
  rintro g ρ₁ w ⟨hf,hs,hI⟩
  have h:=round g ρ₁ w hI
  rw [aKp hf hs] at h
  refine h.mono ?_
  intro e ρ' w' hq
  cases e<;>first | (obtain ⟨h1,g',h2,h3,h4⟩:=hq; exact ⟨g',⟨h1,h2,h3⟩,h4⟩) | exact hq
theorem zW {x y:Code}{G:Type}(W:List Nat)(S:G→List (Nat×Value))(I:G→World→Prop)
    (h:WP P N x (sO (fun ρ' w'=>Fr W ρ ρ'∧ ∃g,Sl ρ' (S g)∧I g w') Q) ρ w)(k: ∀g ρ₁ w,I g w→WP P N y Q (over ρ ρ₁ W (S g)) w):WP P N (.seq x y) Q ρ w:=by
 refine WP_seq h ?_;rintro ρ' w' ⟨h1,g,h2,h3⟩;have:=k g ρ' w' h3;rwa [aKp h1 h2] at this
end loops
end Go.OB
namespace Go.OB
open Go.RowKit

theorem wrap_i64 {n:Int}(h: -9223372036854775808≤n)(h':n≤9223372036854775807):IntKind.i64.wrap n=n:=by rw [IntKind.wrap_i64]; omega
theorem wrap_u64 {n:Int}(h:0≤n)(h':n<18446744073709551616):IntKind.u64.wrap n=n:=by rw [IntKind.wrap_u64]; omega

section ops
variable {P:Program} {ρ:Env} {w:World} {d:Option Tmp} {x y z:Operand} {t u ty:TypeId} {pos:String} {af:Array Edge} {g:Option (Nat×Bool)}
variable {k k':IntKind} {a b c m:Int} {v:Value} {p q:Bool}

theorem bG (hx:ev ρ x=v):Do P ⟨d,.move x,ty,pos,af,g⟩ ρ w v w:=by unfold Do; simp [execOp,hx]
theorem yZ (hx:ev ρ x=v):Do P ⟨d,.assign x,ty,pos,af,g⟩ ρ w v w:=by unfold Do; simp [execOp,hx]
theorem yB (hx:ev ρ x= .bool true)(hy:ev ρ y=v):Do P ⟨d,.pick x y z,ty,pos,af,g⟩ ρ w v w:=by unfold Do; simp [execOp,hx,hy,asBool]
theorem zZ (hx:ev ρ x= .bool false)(hz:ev ρ z=v):Do P ⟨d,.pick x y z,ty,pos,af,g⟩ ρ w v w:=by unfold Do; simp [execOp,hx,hz,asBool]

theorem yQ (hx:ev ρ x= .int k a)(hy:ev ρ y= .int k b)(hr:k.wrap (a+b)=c):Do P ⟨d,.binOp .add t x y u,ty,pos,af,g⟩ ρ w (.int k c) w:=by
 unfold Do; simp [execOp,hx,hy,eqGuard,binOp,Op.intArith,hr]
theorem bF (hx:ev ρ x= .int k a)(hy:ev ρ y= .int k b)(hr:k.wrap (a - b)=c):Do P ⟨d,.binOp .sub t x y u,ty,pos,af,g⟩ ρ w (.int k c) w:=by
 unfold Do; simp [execOp,hx,hy,eqGuard,binOp,Op.intArith,hr]
theorem aQ (hx:ev ρ x= .int k a)(hy:ev ρ y= .int k b)(hr:k.wrap (a * b)=c):Do P ⟨d,.binOp .mul t x y u,ty,pos,af,g⟩ ρ w (.int k c) w:=by
 unfold Do; simp [execOp,hx,hy,eqGuard,binOp,Op.intArith,hr]
theorem Do_tquo (hx:ev ρ x= .int k a)(hy:ev ρ y= .int k b)(h1:b≠0)(hr:k.wrap (a.tdiv b)=c):Do P ⟨d,.binOp .quo t x y u,ty,pos,af,g⟩ ρ w (.int k c) w:=by
 unfold Do; simp [execOp,hx,hy,eqGuard,binOp,Op.intDiv,h1,hr]
theorem Do_trem (hx:ev ρ x= .int k a)(hy:ev ρ y= .int k b)(h1:b≠0):Do P ⟨d,.binOp .rem t x y u,ty,pos,af,g⟩ ρ w (.int k (a.tmod b)) w:=by
 unfold Do; simp [execOp,hx,hy,eqGuard,binOp,Op.intDiv,h1]

theorem yX (hx:ev ρ x= .int k a)(hy:ev ρ y= .int k b):Do P ⟨d,.binOp .lss t x y u,ty,pos,af,g⟩ ρ w (.bool (decide (a<b))) w:=by
 unfold Do; simp [execOp,hx,hy,eqGuard,binOp,Op.intCmp]
theorem kU (hx:ev ρ x= .int k a)(hy:ev ρ y= .int k b):Do P ⟨d,.binOp .leq t x y u,ty,pos,af,g⟩ ρ w (.bool (decide (a≤b))) w:=by
 unfold Do; simp [execOp,hx,hy,eqGuard,binOp,Op.intCmp]
theorem wH (hx:ev ρ x= .int k a)(hy:ev ρ y= .int k b):Do P ⟨d,.binOp .gtr t x y u,ty,pos,af,g⟩ ρ w (.bool (decide (b<a))) w:=by
 unfold Do; simp [execOp,hx,hy,eqGuard,binOp,Op.intCmp]
theorem aC (hx:ev ρ x= .int k a)(hy:ev ρ y= .int k b):Do P ⟨d,.binOp .geq t x y u,ty,pos,af,g⟩ ρ w (.bool (decide (b≤a))) w:=by
 unfold Do; simp [execOp,hx,hy,eqGuard,binOp,Op.intCmp]
theorem xA (hx:ev ρ x= .int k a)(hy:ev ρ y= .int k b):Do P ⟨d,.binOp .eql t x y u,ty,pos,af,g⟩ ρ w (.bool (decide (a=b))) w:=by
 have h:(a==b)=decide (a=b):=by rw [Bool.eq_iff_iff]; simp
 unfold Do; simp [execOp,hx,hy,eqGuard,binOp,Op.intCmp,h]
theorem wF (hx:ev ρ x= .int k a)(hy:ev ρ y= .int k b):Do P ⟨d,.binOp .neq t x y u,ty,pos,af,g⟩ ρ w (.bool (decide (a≠b))) w:=by
 have h:(a !=b)=decide (a≠b):=by rw [Bool.eq_iff_iff]; simp
 unfold Do; simp [execOp,hx,hy,eqGuard,binOp,Op.intCmp,h]

theorem rX (hx:ev ρ x= .int k a)(hy:ev ρ y= .int k b)(hr:bits .and k a b=c):Do P ⟨d,.binOp .and t x y u,ty,pos,af,g⟩ ρ w (.int k c) w:=by
 unfold Do; simp [execOp,hx,hy,eqGuard,binOp,intBits_and,hr]
theorem Do_or (hx:ev ρ x= .int k a)(hy:ev ρ y= .int k b)(hr:bits .or k a b=c):Do P ⟨d,.binOp .or t x y u,ty,pos,af,g⟩ ρ w (.int k c) w:=by
 unfold Do; simp [execOp,hx,hy,eqGuard,binOp,intBits_or,hr]
theorem Do_xor (hx:ev ρ x= .int k a)(hy:ev ρ y= .int k b)(hr:bits .xor k a b=c):Do P ⟨d,.binOp .xor t x y u,ty,pos,af,g⟩ ρ w (.int k c) w:=by
 unfold Do; simp [execOp,hx,hy,eqGuard,binOp,intBits_xor,hr]
theorem Do_shr (hx:ev ρ x= .int k a)(hy:ev ρ y= .int k' b)(h0:0≤b)(h1:b≤k.bits)(hm:(2:Int) ^ b.toNat=m):Do P ⟨d,.binOp .shr t x y u,ty,pos,af,g⟩ ρ w (.int k (a / m)) w:=by
 unfold Do; simp [execOp,hx,hy,eqGuard,binOp,shift_shr k k' a b h0 h1,hm]
theorem Do_shl (hx:ev ρ x= .int k a)(hy:ev ρ y= .int k' b)(h0:0≤b)(h1:b≤k.bits)(hm:(2:Int) ^ b.toNat=m)(hr:k.wrap (a * m)=c):Do P ⟨d,.binOp .shl t x y u,ty,pos,af,g⟩ ρ w (.int k c) w:=by
 unfold Do; simp [execOp,hx,hy,eqGuard,binOp,shift_shl k k' a b h0 h1,hm,hr]
theorem xM (hx:ev ρ x= .bool p):Do P ⟨d,.unOp .not t x,ty,pos,af,g⟩ ρ w (.bool (!p)) w:=by
 unfold Do; simp [execOp,hx,Op.unary]
theorem aDz (hx:ev ρ x= .int k a)(hr:k.wrap (-a)=c):Do P ⟨d,.unOp .neg t x,ty,pos,af,g⟩ ρ w (.int k c) w:=by
 unfold Do; simp [execOp,hx,Op.unary,Op.intArith,hr]
theorem aS {ds:TypeDesc}(hs:P.underlying t=some ds)(hd:P.underlying u=some (.int k'))(hx:ev ρ x= .int k a)(hr:k'.wrap a=c):Do P ⟨d,.convert t u x,ty,pos,af,g⟩ ρ w (.int k' c) w:=by
 unfold Do; simp [execOp,hx,convert,run_underlying hs,run_underlying hd,Conv.intToInt,hr]
theorem Do_neqb (hu:P.underlying t=some .bool)(hx:ev ρ x= .bool p)(hy:ev ρ y= .bool q):Do P ⟨d,.binOp .neq t x y u,ty,pos,af,g⟩ ρ w (.bool (!(p==q))) w:=by
 unfold Do; simp [execOp,hx,hy,eqGuard,run_neq_bool w t p q hu]
theorem zX {ad:Addr}(hx:ev ρ x= .pointer (some ad)):Do P ⟨d,.nilCheck x,ty,pos,af,g⟩ ρ w (.pointer (some ad)) w:=by
 unfold Do; simp [execOp,hx]
theorem yT {vs:Array Value}{i:Nat}(hx:ev ρ x= .tuple vs)(hi:vs[i]? =some v):Do P ⟨d,.extract x i,ty,pos,af,g⟩ ρ w v w:=by
 unfold Do; simp [execOp,hx,Instr.extract,hi]
end ops

structure Only (S:List Nat)(w w':World):Prop where
  os:w'.os=w.os
  tape:w'.tape=w.tape
  output:w'.output=w.output
  size:w.heap.size≤w'.heap.size
  block: ∀k,k<w.heap.size→k ∉ S→w'.heap[k]? =w.heap[k]?

theorem Only.refl (S:List Nat)(w:World):Only S w w:=⟨rfl,rfl,rfl,Nat.le_refl _,fun _ _ _=>rfl⟩
theorem Only.trans {S:List Nat}{a b c:World}(h:Only S a b)(k:Only S b c):Only S a c:=
  ⟨k.os.trans h.os,k.tape.trans h.tape,k.output.trans h.output,Nat.le_trans h.size k.size,fun i hi hs=>(k.block i (Nat.lt_of_lt_of_le hi h.size) hs).trans (h.block i hi hs)⟩
theorem Only.mono {S S':List Nat}{a b:World}(h:Only S a b)(hs: ∀i ∈ S,i ∈ S'):Only S' a b:=
  ⟨h.os,h.tape,h.output,h.size,fun i hi hn=>h.block i hi (fun hm=>hn (hs i hm))⟩
theorem Only.step {S S':List Nat}{a b c:World}(h:Only S a b)(k:Only S' b c)(hs: ∀i ∈ S',a.heap.size≤i∨i ∈ S):Only S a c:=
  ⟨k.os.trans h.os,k.tape.trans h.tape,k.output.trans h.output,Nat.le_trans h.size k.size,fun i hi hn=>
    (k.block i (Nat.lt_of_lt_of_le hi h.size) (fun hm=>(hs i hm).elim (fun h=>by omega) hn)).trans (h.block i hi hn)⟩
theorem Only.below {w w':World}(h:Only [] w w'):Below w.heap.size w w':=⟨h.os,h.tape,h.output,h.size,fun k hk=>h.block k hk (by simp)⟩
theorem Only.of_below {w w':World}(h:Below w.heap.size w w'):Only [] w w':=⟨h.os,h.tape,h.output,h.size,fun k hk _=>h.block k hk⟩

def Blk (w:World)(b:Nat)(cs:List Value)(T:TypeId):Prop:=w.heap[b]? =some (.cells cs.toArray T (0,0))

theorem Blk.lt {w:World}{b:Nat}{cs:List Value}{T:TypeId}(h:Blk w b cs T):b<w.heap.size:=(Array.getElem?_eq_some_iff.1 h).1
theorem Blk.cell {w:World}{b:Nat}{cs:List Value}{T:TypeId}(h:Blk w b cs T){i:Nat}{v:Value}(hi:cs[i]? =some v):w.cell? ⟨b,i,none⟩=some v:=by
 rw [cell_of_row w b i cs.toArray T (0,0) h]; simpa using hi
theorem Blk.frozen {w:World}{b:Nat}{cs:List Value}{T:TypeId}(h:Blk w b cs T)(i:Nat):w.frozen? ⟨b,i,none⟩=false:=frozen_of_row w b i cs.toArray T h
theorem Blk.only {S:List Nat}{w w':World}{b:Nat}{cs:List Value}{T:TypeId}(h:Blk w b cs T)(ho:Only S w w')(hb:b ∉ S):Blk w' b cs T:=by
 have hl:=h.lt; unfold Blk at *; rw [ho.block b hl hb]; exact h
theorem Blk.sees {w w':World}{b:Nat}{cs:List Value}{T:TypeId}(h:Blk w b cs T)(ho:fJ w w'):Blk w' b cs T:=by
 have hl:=h.lt; unfold Blk at *; rw [ho.block b hl]; exact h
theorem Blk.below {B:Nat}{w w':World}{b:Nat}{cs:List Value}{T:TypeId}(h:Blk w b cs T)(ho:Below B w w')(hb:b<B):Blk w' b cs T:=by
 unfold Blk at *; rw [ho.block b hb]; exact h

def Cells (w:World)(a:Addr)(cs:List Value):Prop:= ∀i v,cs[i]? =some v→w.cell? (a.add i)=some v

theorem Addr.add_none (b o i:Nat):(⟨b,o,none⟩:Addr).add i=⟨b,o+i,none⟩:=by unfold Addr.add; split<;>simp_all
theorem Addr.add_block (a:Addr)(i:Nat):(a.add i).block=a.block:=by unfold Addr.add; split<;>rfl
theorem Cells.only {S:List Nat}{w w':World}{a:Addr}{cs:List Value}(h:Cells w a cs)(ho:Only S w w')(ha:a.block ∉ S):Cells w' a cs:=by
 intro i v hv;have hc:=h i v hv;have hlt:(a.add i).block<w.heap.size:=World.block_lt_of_cell? _ _ hc;rw [World.cell?_of_block (w:=w) (ho.block _ hlt (by rw [Addr.add_block]; exact ha))];exact hc
theorem Cells.sees {w w':World}{a:Addr}{cs:List Value}(h:Cells w a cs)(ho:fJ w w'):Cells w' a cs:=h.only (Only.of_below ho) (by simp)
theorem Cells.get {w:World}{b o:Nat}{cs:List Value}(h:Cells w ⟨b,o,none⟩ cs){i:Nat}{v:Value}(hi:cs[i]? =some v):w.cell? ⟨b,o+i,none⟩=some v:=by
 rw [← Addr.add_none]; exact h i v hi
theorem Blk.cells {w:World}{b:Nat}{cs:List Value}{T:TypeId}(h:Blk w b cs T):Cells w ⟨b,0,none⟩ cs:=by
 intro i v hv; rw [Addr.add_none]; simpa using h.cell hv
theorem Cells.drop {w:World}{b o:Nat}{cs:List Value}(h:Cells w ⟨b,o,none⟩ cs)(n m:Nat):Cells w ⟨b,o+n,none⟩ ((cs.drop n).take m):=by
 intro i v hv;rw [Addr.add_none,Nat.add_assoc];refine h.get ?_;rw [List.getElem?_take] at hv;split at hv;rwa [List.getElem?_drop] at hv;cases hv

def Sz (P:Program)(t:TypeId)(n:Nat):Prop:=(P.info? t).map (·.size)=some n
def cZ (P:Program)(t:TypeId):Prop:=(P.underlying t).map (fun d=>match d with | .struct _ | .array _ _=>false | _=>true)=some true
def Agg (P:Program)(t:TypeId):Prop:=(P.underlying t).map (fun d=>match d with | .struct _ | .array _ _=>true | _=>false)=some true
def Zero (P:Program)(t:TypeId)(cs:List Value):Prop:=((P.info? t).bind (·.zero)).map (·.cells.toList)=some cs

theorem bZ {P:Program}{t:TypeId}{n:Nat}(h:Sz P t n)(w:World):(sizeOf t).run P w= .ok n w:=by
  unfold Sz at h
  cases hi:P.info? t with
  | none=>rw [hi] at h; cases h
  | some i=>rw [hi] at h; simp at h; simp [sizeOf,typeInfo,hi,h]
theorem aAh {P:Program}{t:TypeId}(h:cZ P t)(w:World):(isAgg t).run P w= .ok false w:=by
  unfold cZ at h
  cases hu:P.underlying t with
  | none=>rw [hu] at h; cases h
  | some d=>rw [hu] at h; cases d<;>simp at h<;>simp [isAgg,run_underlying hu]
theorem aAk {P:Program}{t:TypeId}(h:Agg P t)(w:World):(isAgg t).run P w= .ok true w:=by
  unfold Agg at h
  cases hu:P.underlying t with
  | none=>rw [hu] at h; cases h
  | some d=>rw [hu] at h; cases d<;>simp at h<;>simp [isAgg,run_underlying hu]

theorem aFa {P:Program}{t:TypeId}{a:Addr}{v:Value}{w:World}(h1:cZ P t)(hc:w.cell? a=some v):(loadVar t a).run P w= .ok v w:=by
 have hl:(load a .plain).run P w= .ok v w:=by simp [load,Sem.run,hc]
 simp only [loadVar,Sem.run_bind,aAh h1,Result.andThen];exact hl
theorem yU {P:Program}{t:TypeId}{n:Nat}{a:Addr}{cs:List Value}{w:World}(h1:Agg P t)(hs:Sz P t n)(hl:cs.length=n)(hc:Cells w a cs):(loadVar t a).run P w= .ok (.agg cs.toArray) w:=by
 subst hl;have hl:=run_loadCells_list (P:=P) w a cs hc;simp [loadVar,Sem.run_bind,aAk h1,bZ hs,hl]

structure Wr (w w':World)(b:Nat)(cs:List Value)(T:TypeId):Prop where
  blk:Blk w' b cs T
  only:Only [b] w w'
  size:w'.heap.size=w.heap.size
structure Al (w w':World)(b:Nat)(cs:List Value)(T:TypeId):Prop where
  at_:b=w.heap.size
  blk:Blk w' b cs T
  only:Only [] w w'
  size:w'.heap.size=w.heap.size+1

theorem Al.mk' (w:World)(cs:List Value)(T:TypeId):Al w (w.alloc (.cells cs.toArray T)) w.heap.size cs T:=
  ⟨rfl,heap_alloc_new w _,⟨rfl,rfl,rfl,by simp,fun k hk _=>Below.heap_alloc w _ k hk⟩,by simp⟩
theorem Wr.setRow {w:World}{b:Nat}{cs:List Value}{T:TypeId}(h:Blk w b cs T)(cs':List Value):Wr w (w.setRow b cs'.toArray) b cs' T:=
  ⟨setRow_heap w b _ _ T (0,0) h,⟨rfl,rfl,rfl,by simp,fun k _ hn=>setRow_other w b k _ (fun e=>hn (by simp [e]))⟩,by simp⟩

section mem
variable {P:Program} {N:Nat} {ops:Array Oper} {Q:Exit→Env→World→Prop} {rest:List Oper} {ρ:Env} {w:World} {d:Nat} {do_:Option Tmp} {x y z:Operand} {t u ty:TypeId} {pos:String} {af:Array Edge} {g:Option (Nat×Bool)}
variable {v:Value} {b i:Nat} {cs:List Value} {T:TypeId}

theorem yS {a:Addr}(h1:cZ P t)(hx:ev ρ x= .pointer (some a))(hc:w.cell? a=some v):Do P ⟨do_,.load t x,ty,pos,af,g⟩ ρ w v w:=by
 unfold Do; simp [execOp,hx,Instr.loadAt,Instr.sureAddr,aFa h1 hc]
theorem zY {a:Addr}{n:Nat}(h1:Agg P t)(hx:ev ρ x= .pointer (some a))(hs:Sz P t n)(hl:cs.length=n)(hc:Cells w a cs):Do P ⟨do_,.load t x,ty,pos,af,g⟩ ρ w (.agg cs.toArray) w:=by
 unfold Do; simp [execOp,hx,Instr.loadAt,Instr.sureAddr,yU h1 hs hl hc]

end mem
end Go.OB
namespace Go.OB
open Go.RowKit

def SlR (w:World)(v:Value)(s n:Nat)(xs:List Value):Prop:=
  xs.length=n * s∧((v= .slice none 0 0∧n=0)∨ ∃a cap,v= .slice (some a) n cap∧n≤cap∧cap≤maxLen∧(0<n→a.spot=none)∧Cells w a xs)

def aH:Value→Option Nat
  | .slice (some a) _ _=>some a.block
  | _=>none

theorem SlR.only {S : List Nat} {w w' : World} {v : Value} {s n : Nat} {xs : List Value} (h : SlR w v s n xs) (ho : Only S w w') (hb : 0 < n → ∀ b, aH v = some b → b ∉ S) : SlR w' v s n xs := by
  obtain ⟨hl, h⟩ := h
  refine ⟨hl, ?_⟩
  rcases h with h | ⟨a, cap, rfl, h1, h2, h3, hc⟩
  · exact .inl h
  · refine .inr ⟨a, cap, rfl, h1, h2, h3, ?_⟩
    rcases Nat.eq_zero_or_pos n with h0 | h0
    · subst h0
      have : xs = [] := List.eq_nil_of_length_eq_zero (by simpa using hl)
      subst this
      intro i v hv
      simp at hv
    · exact hc.only ho (hb h0 a.block rfl)
theorem SlR.lt {w : World} {v : Value} {n : Nat} {xs : List Value} (h : SlR w v 1 n xs) (hn : 0 < n) : ∀ b, aH v = some b → b < w.heap.size := by
  intro b hb
  obtain ⟨hl, h⟩ := h
  rcases h with ⟨rfl, _⟩ | ⟨a, cap, rfl, h1, h2, h3, hc⟩
  · cases hb
  · cases hb
    have hx : 0 < xs.length := by omega
    have := World.block_lt_of_cell? _ _ (hc 0 xs[0] (by simp [hx]))
    rwa [Addr.add_block] at this
theorem SlR.below {w w':World}{v:Value}{s n:Nat}{xs:List Value}(h:SlR w v s n xs)(ho:Below w.heap.size w w'):SlR w' v s n xs:=h.only (Only.of_below ho) (by simp)
theorem SlR.sees {w w':World}{v:Value}{s n:Nat}{xs:List Value}(h:SlR w v s n xs)(ho:fJ w w'):SlR w' v s n xs:=h.below ho
theorem SlR.nil {w:World}{s:Nat}:SlR w (.slice none 0 0) s 0 []:=⟨by simp,.inl ⟨rfl,rfl⟩⟩
theorem SlR.shape {w:World}{v:Value}{s n:Nat}{xs:List Value}(h:SlR w v s n xs): ∃a c,v= .slice a n c:=by
  rcases h.2 with ⟨h,h'⟩ | ⟨a,cap,h,_⟩
  · exact ⟨none,0,by rw [h,h']⟩
  · exact ⟨_,_,h⟩
theorem SlR.some {w : World} {v : Value} {s n : Nat} {xs : List Value} (h : SlR w v s n xs) (hn : 0 < n) : ∃ b o cap, v = .slice (some ⟨b, o, none⟩) n cap ∧ n ≤ cap ∧ cap ≤ maxLen ∧ Cells w ⟨b, o, none⟩ xs := by
  rcases h.2 with ⟨_, h⟩ | ⟨⟨b, o, sp⟩, cap, h, h1, h2, h3, hc⟩
  · omega
  · have h3 : sp = none := h3 hn
    subst h3
    exact ⟨b, o, cap, h, h1, h2, hc⟩
theorem maxLen_eq:maxLen=9223372036854775807:=by decide

def Enters (P:Program)(f:FuncId):Prop:= ∃fn,P.funcs[f]? =some fn∧fn.body.isSome=true∧(fn.name== "runtime.NumGoroutine")=false

section ops
variable {P:Program} {N:Nat} {ops:Array Oper} {Q:Exit→Env→World→Prop} {rest:List Oper} {ρ:Env} {w:World} {d:Option Tmp} {x y z:Operand} {t u ty e:TypeId} {pos:String} {af:Array Edge} {g:Option (Nat×Bool)}
variable {v:Value} {b o i j m n c s:Nat} {k k':IntKind} {q:Int} {cs xs:List Value} {T:TypeId}

theorem yD {f:FuncId}{args:Array Operand}{at_:Array TypeId}{vs:List Value}(hf:Enters P f)(ha:args.toList.map (ev ρ)=vs):
    DoC P ⟨d,.call {callee:= .value (.func f),args:=args,argTypes:=at_},ty,pos,af,g⟩ ρ w f vs.toArray:=by
  obtain ⟨fn,h1,h2,h3⟩:=hf
  have h2': ¬fn.body=none:=by cases hb:fn.body<;>simp_all
  have h3': ¬fn.name= "runtime.NumGoroutine" :=by simpa using h3
  have h4:(callFunc f (args.map (ev ρ))).run P w= .ok (.enter f (args.map (ev ρ))) w:=by
    simp [callFunc,Sem.run,h1,h2',h3',program]
  unfold DoC
  have e:args.map (ev ρ)=vs.toArray:=by rw [← ha]; apply Array.ext'; simp
  simp only [execOp,resolve,ev,Deferred.ofValue]
  rw [e] at h4 ⊢
  simp [invoke,h4]

theorem yY (hu:P.underlying t=some (.slice e)){a:Option Addr}(hx:ev ρ x= .slice a n c):
    Do P ⟨d,.call {callee:= .builtin .len,args:= #[x],argTypes:= #[t]},ty,pos,af,g⟩ ρ w (.int .i64 n) w:=by
 unfold Do; simp [execOp,resolve,invoke,builtin,Builtin.len_,hx,run_underlying hu,goInt]
theorem Do_lens (hu:P.underlying t=some .string){str:ByteArray}(hx:ev ρ x= .string str):
    Do P ⟨d,.call {callee:= .builtin .len,args:= #[x],argTypes:= #[t]},ty,pos,af,g⟩ ρ w (.int .i64 str.size) w:=by
 unfold Do; simp [execOp,resolve,invoke,builtin,Builtin.len_,hx,run_underlying hu,goInt]

theorem yL (hu:P.underlying t=some (.slice e))(hs:Sz P e s)(hx:ev ρ x= .slice (some ⟨b,o,none⟩) n c)(hy:ev ρ y= .int k q)(h0:0≤q)(h1:q<n)(hj:q.toNat=j)(hm:o+j * s=m):
    Do P ⟨d,.indexAddr t x y,ty,pos,af,g⟩ ρ w (.pointer (some ⟨b,m,none⟩)) w:=by
 unfold Do;simp [execOp,Instr.indexAt,hx,hy,asIntOf,run_underlying hu,h0,h1,bZ hs,hj,Addr.add_none,hm]
theorem Do_idxa (hu:P.underlying t=some (.array n e))(hs:Sz P e s)(hx:ev ρ x= .pointer (some ⟨b,o,none⟩))(hy:ev ρ y= .int k q)(h0:0≤q)(h1:q<n)(hj:q.toNat=j)(hm:o+j * s=m):
    Do P ⟨d,.indexAddr t x y,ty,pos,af,g⟩ ρ w (.pointer (some ⟨b,m,none⟩)) w:=by
 unfold Do;simp [execOp,Instr.indexAt,Instr.sureAddr,hx,hy,asIntOf,run_underlying hu,h0,h1,bZ hs,hj,Addr.add_none,hm]
theorem aQg {kl:IntKind}{l:Int}{lo:Operand}{a:Option Addr}(hu:P.underlying t=some (.slice e))(hs:Sz P e s)(hx:ev ρ x= .slice a n c)(hl:ev ρ lo= .int kl l)
    (h0:0≤l)(h1:l≤n):Do P ⟨d,.slice t x (some lo) none none,ty,pos,af,g⟩ ρ w (sliced a l.toNat n c s) w:=by
 have he:P.elem t=e:=by simp [Program.elem,hu]
 have hu':P.underlying t=some (.slice (P.elem t)):=by rw [he]; exact hu
 unfold Do;simp [execOp,hx,hl,run_sliceAt_slice w t _ _ _ _ hu',run_slice_l w t a n c hu' kl l h0 h1,he,bZ hs]
theorem aQx {kh:IntKind}{h:Int}{hi:Operand}{a:Option Addr}(hu:P.underlying t=some (.slice e))(hs:Sz P e s)(hx:ev ρ x= .slice a n c)(hh:ev ρ hi= .int kh h)
    (h0:0≤h)(h2:h≤c):Do P ⟨d,.slice t x none (some hi) none,ty,pos,af,g⟩ ρ w (sliced a 0 h.toNat c s) w:=by
 have he:P.elem t=e:=by simp [Program.elem,hu]
 have hu':P.underlying t=some (.slice (P.elem t)):=by rw [he]; exact hu
 unfold Do;simp [execOp,hx,hh,run_sliceAt_slice w t _ _ _ _ hu',run_slice_h w t a n c hu' kh h h0 h2,he,bZ hs]
theorem aMi {kl kh:IntKind}{l h:Int}{lo hi:Operand}(hu:P.underlying t=some (.array n e))(hs:Sz P e s)(hx:ev ρ x= .pointer (some ⟨b,o,none⟩))(hl:ev ρ lo= .int kl l)(hh:ev ρ hi= .int kh h)
    (h0:0≤l)(h1:l≤h)(h2:h≤n):Do P ⟨d,.slice t x (some lo) (some hi) none,ty,pos,af,g⟩ ρ w (slicedAt ⟨b,o,none⟩ l.toNat h.toNat n s) w:=by
 have he:P.elem t=e:=by simp [Program.elem,hu]
 have hn:P.arrayLen t=n:=by simp [Program.arrayLen,hu]
 have hu':P.underlying t=some (.array (P.arrayLen t) (P.elem t)):=by rw [he,hn]; exact hu
 unfold Do;simp [execOp,hx,hl,hh,run_sliceAt_array_lh w t ⟨b,o,none⟩ hu' kl kh l h h0 h1 (by rw [hn]; exact h2),he,hn,bZ hs]
theorem aBn {kl kh:IntKind}{l h:Int}{lo hi:Operand}{i j m:Nat}(hu:P.underlying t=some (.array n e))(hs:Sz P e s)(hx:ev ρ x= .pointer (some ⟨b,o,none⟩))(hl:ev ρ lo= .int kl l)(hh:ev ρ hi= .int kh h)
    (hi':l=(i:Int))(hj:h=((i+j:Nat):Int))(h1:i<n)(h2:i+j≤n)(hm:o+i * s=m):Do P ⟨d,.slice t x (some lo) (some hi) none,ty,pos,af,g⟩ ρ w (.slice (some ⟨b,m,none⟩) j (n - i)) w:=by
  have:=aMi (P:=P) (w:=w) (d:=d) (ty:=ty) (pos:=pos) (af:=af) (g:=g) hu hs hx hl hh (by omega) (by omega) (by omega)
  have e:slicedAt ⟨b,o,none⟩ l.toNat h.toNat n s= .slice (some ⟨b,m,none⟩) j (n - i):=by
    unfold slicedAt
    rw [if_neg (by omega)]
    simp [Addr.add_none,hi',hm,hj]
    omega
  rwa [e] at this
end ops

end Go.OB
namespace Go.OB
open Go.RowKit

theorem yO {P:Program}{o:Oper}{ρ:Env}{w w':World}{v v':Value}(h:Do P o ρ w v w')(e:v=v'):Do P o ρ w v' w':=e ▸ h
end Go.OB
