/- Laws that the claim stands on; no condition beyond those stated. -/
import Derived.Test.YthgccglopkgghaaGreatDoorLfS
import Derived.Test.YthgccglopkgghaaGreatDoorObD
namespace Go.Lf
open Go.OB
section
variable {ε α β:Type}
def tk (h:ε->Value):Except ε α->(α->Ending->World->Prop)->(World->Prop)->Ending->World->Prop
 | .ok x,A,_=>A x
 | .error f,_,B=>λe w=>e= .panicked [{v:=h f,recovered:=false}]/\B w
theorem dR {f:ε->Value}{x:α}{A:α->Ending->World->Prop}{B:World->Prop}{e:Ending}{w:World}(h:A x e w):tk f (.ok x) A B e w:=h
def thr:Except ε α->(α->Option (Except ε β))->Option (Except ε β)
 | .ok a,k=>k a
 | .error f,_=>some (.error f)
def eiO {p:Type}(x:Except ε α)(k:α->Option p)(h:ε->Option p):Option p:=match x with | .ok a=>k a| .error f=>h f
theorem zY {x:Except ε α}{f:ε}{k:α->Option (Except ε β)}{r:Except ε β}(h:thr x k=some r)(e:x= .error f):r= .error f:=by
 subst e;exact(oI h).symm
theorem yO {x:Except ε α}{a:α}{k:α->Option (Except ε β)}{r:Except ε β}(h:thr x k=some r)(e:x= .ok a):k a=some r:=by
 subst e;exact h
end
section
variable {P:Program}{N:Nat}{ops:Array Oper}{Q:Exit->Env->World->Prop}{ρ:Env}{w w':World}{rest:List Oper}{op:Op}{d:Nat}{ty:TypeId}{pos:String}{af:Array Edge}{g:Option (Nat×Bool)}{v:Value}
theorem Do_panic {D:Option Nat}{x:Operand}{T:TypeId}(f:ev ρ x= .iface T v):(execOp (ev ρ) ⟨D,.panic x,ty,pos,af,g⟩).run P w= .halt (.panic (.iface T v)) w:=by simp [execOp,Instr.panic,f]
theorem RL_throw {D:Option Nat}(p:fF N ops ρ ⟨D,op,ty,pos,af,g⟩=true)(h:(execOp (ev ρ) ⟨D,op,ty,pos,af,g⟩).run P w= .halt (.panic v) w')(k:Q (.panic [{v,recovered:=false}]) ρ w'):RL P N ops Q (⟨D,op,ty,pos,af,g⟩::rest) ρ w:=by
 intro a f;unfold wpList;rw [f.wanted,p,if_pos rfl];refine .inl ?_;unfold Oper.wp;rw [f.eval,h];exact⟨ρ,f,k⟩
theorem yF {ε α:Type}{E:ε->Value}{x:Except ε α}{A:α->Ending->World->Prop}{B:World->Prop}{f:FuncId}{args:Array Value}
  (H:fF N ops ρ ⟨some d,op,ty,pos,af,g⟩=true)(J:Nat.blt d N=true)(h:DoC P ⟨some d,op,ty,pos,af,g⟩ ρ w f args)
  (L:Calls P f args w (tk E x A B))
  (X: ∀c w',x= .error c->B w'->Q (.panic [{v:=E c,recovered:=false}]) ρ w')
  (k: ∀y e w',x= .ok y->A y e w'-> ∃v,e= .returned v/\RL P N ops Q rest (upd ρ d v) w'):RL P N ops Q (⟨some d,op,ty,pos,af,g⟩::rest) ρ w:=by
 intro a C;unfold wpList;rw [C.wanted,H,if_pos rfl];refine .inl ?_;unfold Oper.wp;rw [C.eval,show(execOp (ev ρ) _).run P w=_ from h];refine L.mono λe p G=>?_
 cases x with
 |ok y=>
  obtain⟨v,rfl,Y⟩:=k y e p rfl G;exact Y _ (C.put (xE J) v)
 |error c=>
  obtain⟨rfl,hB⟩:=G;exact⟨ρ,C,X c p rfl hB⟩
end
open Go.RowKit
section ff
variable {α β:Type}
end ff
section hd
variable {P:Program}{ρ:Env}{w w0 w1 w':World}{d:Option Tmp}{x y z:Operand}{t u ty e:TypeId}{pos:String}{af:Array Edge}{g:Option (Nat×Bool)}
variable {v:Value}{b o i n c s m:Nat}{k k':IntKind}{cs xs vs:List Value}{bs:List Nat}{T:TypeId}{O O' S M:List Nat}{l l2:List Th}{α β:Type}{r:Rp α}{R:Rt α}{D:Hol}{xl yl zl:List α}{a:α}{j q:Int}{F:Nat->Prop}
end hd
section ops
variable {P:Program}{ρ:Env}{w w0 w1 w':World}{d:Option Tmp}{x y z:Operand}{t u ty e:TypeId}{pos:String}{af:Array Edge}{g:Option (Nat×Bool)}
variable {v:Value}{b o i n c s m:Nat}{k k':IntKind}{cs xs vs:List Value}{bs:List Nat}{T:TypeId}{O O' S M:List Nat}{l l2:List Th}{α β:Type}{r:Rp α}{R:Rt α}{D:Hol}{xl yl zl:List α}{a:α}{j q:Int}{F:Nat->Prop}
def mkiB (P:Program)(t:TypeId):Bool:=match P.underlying t with |some (.interface _)=>false|some _=>true|none=>false
theorem Do_mkI (h:mkiB P t=true)(p:ev ρ x=v):Do P ⟨d,.makeInterface t x,ty,pos,af,g⟩ ρ w (.iface t v) w:=by
 unfold mkiB at h
 cases hu:P.underlying t with
 |none=>rw [hu]at h;cases h
 |some f=>
  rw [hu]at h;unfold Do
  cases f<;>simp_all [execOp,Instr.makeInterface,run_underlying hu]
end ops
def tcq {ε α:Type}(f:ε->Value)(r:Except ε α)(B:World->Prop):List PanicEntry->World->Prop:=λh w=> ∃c,h=[{v:=f c,recovered:=false}]/\r= .error c/\B w
theorem tcq_Q {ε α:Type}{p:ε->Value}{r:Except ε α}{B:World->Prop}{Q:Exit->Env->World->Prop}(h: ∀c ρ w,r= .error c->B w->Q (.panic [{v:=p c,recovered:=false}]) ρ w): ∀f ρ w,tcq p r B f w->Q (.panic f) ρ w:=by
 rintro f ρ w ⟨c,rfl,A,C⟩;exact h c ρ w A C
section
variable {P:Program}{N:Nat}{Q:Exit->Env->World->Prop}{ρ:Env}{w:World}{O S:List Nat}{l:List Th}{Tc:List PanicEntry->World->Prop}
theorem WP_mixT {id:Nat}{c:List Oper}(_H:Hd O w w S l)(Tc:List PanicEntry->World->Prop)(E: ∀C ρ w,Tc C w->Q (.panic C) ρ w)(σ:List Nat)(κ:List MxT.Kd)(f: ∀i,(MxT.kdOf κ i).isMk=false)(G:P.follows .mixedOrders=true)(H:Region.noSelect c.toArray=true)(p:MxT.edgesB .any c.toArray=true)(J:MxT.pairB .any c.toArray (MxT.kdOf κ) σ=true)
  (A:σ.isPerm (List.range c.length)=true)(h:MxT.XL P (λw'=>Only S w w') N Tc c.toArray κ (λ_ ρ w=>Q .normal ρ w) (some λ_=>False) σ (MxT.sel c σ) ρ w):WP P N (.region id c.toArray true) Q ρ w:=
 MxT.WP_mix σ κ E (λi _ L w' _=>by have:=f i;rw [L]at this;cases this) G H p J A (λ_ _=>oS _ _) (Only.refl S w) h
theorem WP_forkT {id:Nat}{c:List Oper}{p X:List Nat}{l1:List Th}(_H:Hd O w w S l)(_H1:Hd X w w p l1)(Tc:List PanicEntry->World->Prop)(Y: ∀L ρ w,Tc L w->Q (.panic L) ρ w)(pre:List Nat)(u v:Nat)(post l2:List Nat)(κ:List MxT.Kd)(A: ∀i,(MxT.kdOf κ i).isMk=false)(hm:P.follows .mixedOrders=true)(hs:Region.noSelect c.toArray=true)(E:MxT.edgesB .any c.toArray=true)(hp:MxT.forkB .any c.toArray (MxT.kdOf κ) pre u v post=true)(C:MxT.barB .any c.toArray (MxT.kdOf κ) (pre++u::v::post) l2=true)(G:MxT.pairB .any c.toArray (MxT.kdOf κ) l2=true)
  (H:(pre++u::v::(post++l2)).isPerm (List.range c.length)=true)
  (h:MxT.XL P (λw'=>Only p w w') N Tc c.toArray κ (λM ρ f=>MxT.XL P (λw'=>Only p w w') N Tc c.toArray κ (λ_ ρ f=>Only S w f/\MxT.XL P (λw'=>Only S w w') N Tc c.toArray κ (λ_ ρ w=>Q .normal ρ w) none l2 (MxT.sel c l2) ρ f) M (u::v::post) (MxT.sel c (u::v::post)) ρ f/\MxT.XL P (λw'=>Only p w w') N Tc c.toArray κ (λ_ ρ f=>Only S w f/\MxT.XL P (λw'=>Only S w w') N Tc c.toArray κ (λ_ ρ w=>Q .normal ρ w) none l2 (MxT.sel c l2) ρ f) M (v::u::post) (MxT.sel c (v::u::post)) ρ f) (some λ_=>False) pre (MxT.sel c pre) ρ w):WP P N (.region id c.toArray true) Q ρ w:=
 MxT.WP_fork (I:=λw'=>Only p w w') (I0:=λw'=>Only S w w') pre u v post l2 κ Y (λi B C w' J=>by have:=A i;rw [C]at this;cases this) (λi B C w' J=>by have:=A i;rw [C]at this;cases this) hm hs E hp C G H (λ_ _=>oS _ _) (λ_ _=>oS _ _) (Only.refl p w) h
theorem noMkT: ∀{κ:List MxT.Kd},(κ.all λk=> !k.isMk)=true-> ∀i,(MxT.kdOf κ i).isMk=false
 | [],_,i=>by simp [MxT.kdOf,MxT.Kd.isMk]
 |k::κ,h,0=>by simp at h;simpa [MxT.kdOf]using h.1
 |k::κ,h,i+1=>by
  simp at h;have:=noMkT (κ:=κ) (by simpa using h.2) i;simpa [MxT.kdOf]using this
end
section
variable {P:Program}{I:World->Prop}{N:Nat}{Tc:List PanicEntry->World->Prop}{ops:Array Oper}{κ:List MxT.Kd}{K:MxT.Mm->Env->World->Prop}{k:Nat}{M:MxT.Mm}{σ:List Nat}{rest:List Oper}{ρ:Env}{w:World}{d:Nat}{op:Op}{ty:TypeId}{pos:String}{af:Array Edge}{g:Option (Nat×Bool)}
theorem sU {ε α:Type}{E:ε->Value}{x:Except ε α}{A:World->α->Ending->World->Prop}{B:World->World->Prop}{f:FuncId}{args:Array Value}(H: ∀w w',I w->gZ w w'->I w')(J:MxT.kdOf κ k= .thr)(L:fF N ops ρ ⟨some d,op,ty,pos,af,g⟩=true)(X:Nat.blt d N=true)(h: ∀w',gZ w w'->DoC P ⟨some d,op,ty,pos,af,g⟩ ρ w' f args)
  (Y: ∀w',gZ w w'->Calls P f args w' (tk E x (A w') (B w')))
  (ht: ∀c w' p,gZ w w'->x= .error c->B w' p->Tc [{v:=E c,recovered:=false}] p)
  (n: ∀y w' e p,gZ w w'->x= .ok y->A w' y e p-> ∃v,e= .returned v/\I p/\MxT.XL P I N Tc ops κ K none σ rest (upd ρ d v) p):MxT.XL P I N Tc ops κ K M (k::σ) (⟨some d,op,ty,pos,af,g⟩::rest) ρ w:=by
 refine MxT.XL_thr H J L X h Y λw' e p C G=>?_
 cases x with
 |ok y=>exact .inl (n y w' e p C rfl G)
 |error c=>obtain⟨rfl,hB⟩:=G;exact .inr ⟨_,rfl,ht c w' p C rfl hB⟩
end
section
variable {P:Program}{N:Nat}{ops:Array Oper}{ds:List Deferred}{Q:Exit->List Deferred->Env->World->Prop}{ρ:Env}{w w':World}{rest:List Oper}{op:Op}{d:Nat}{ty:TypeId}{pos:String}{af:Array Edge}{g:Option (Nat×Bool)}
theorem RLD_callT {ε α:Type}{E:ε->Value}{x:Except ε α}{A:α->Ending->World->Prop}{B:World->Prop}{f:FuncId}{args:Array Value}
  (H:fF N ops ρ ⟨some d,op,ty,pos,af,g⟩=true)(J:Nat.blt d N=true)(h:DoC P ⟨some d,op,ty,pos,af,g⟩ ρ w f args)
  (L:Calls P f args w (tk E x A B))
  (X: ∀c w',x= .error c->B w'->Q (.panic [{v:=E c,recovered:=false}]) ds ρ w')
  (k: ∀y e w',x= .ok y->A y e w'-> ∃v,e= .returned v/\RLD P N ops ds Q rest (upd ρ d v) w'):RLD P N ops ds Q (⟨some d,op,ty,pos,af,g⟩::rest) ρ w:=by
 intro a C;unfold wpList;rw [C.wanted,H,if_pos rfl];refine .inl ?_;unfold Oper.wp;rw [C.eval,show(execOp (ev ρ) _).run P w=_ from h];refine L.mono λe p G=>?_
 cases x with
 |ok y=>
  obtain⟨v,rfl,Y⟩:=k y e p rfl G;exact Y _ (C.put (xE J) v)
 |error c=>
  obtain⟨rfl,hB⟩:=G;exact⟨ρ,ds,C,X c p rfl hB⟩
end
theorem Do_taS {P:Program}{ρ:Env}{w:World}{d:Option Tmp}{x:Operand}{h a ty:TypeId}{pos:String}{af:Array Edge}{g:Option (Nat×Bool)}{v:Value}(f:((P.underlying a).map λd=>match d with | .struct _=>true|_=>false)=some true)(p:ev ρ x= .iface a v):Do P ⟨d,.typeAssert x h a true,ty,pos,af,g⟩ ρ w (.tuple #[v,.bool true]) w:=by
 cases hd:P.underlying a with
 |none=>rw [hd]at f;cases f
 |some A=>
  rw [hd]at f;unfold Do
  cases A<;>simp at f
  simp [execOp,p,Instr.typeAssert,run_underlying hd]
theorem wpS_WP {P:Program}{fn:Func}{c:Code}{a:Act}{args:List Value}{N:Nat}{f:Frame}{cs:List Frame}{w:World}{R:Ending->FrameMode->World->Prop} (p:FrameMode) (_:fn.ntmps=N)
  (J:a={tmps:=args.toArray++Array.replicate (N-args.length) undef,defers:=[]}) (H:Nat.ble args.length N=true)
  (h:WP P N c (mO P fn.results λe w'=>R e p w') (aAb args) w):c.wpS P (bodyPostS P fn f cs R) a ({f with mode:=p} ::cs) w:=by
 have H:=Nat.le_of_ble_eq_true H;subst J;have A:Fits N {tmps:=args.toArray++Array.replicate (N-args.length) undef,defers:=[]} (aAb args):=by
  refine⟨by simp;omega,rfl,λi=>?_⟩;rw [<-wC];simp only [Array.getD_eq_getD_getElem?,Array.getElem?_append,List.getD_eq_getElem?_getD,List.size_toArray,Array.getElem?_replicate,List.getElem?_toArray];split
  ·rfl
  ·rename_i _;rw [List.getElem?_eq_none (by omega)];split<;>rfl
 refine wpS_of_wp (wp_mono (h _ A) ?_);rintro e a w ⟨ρ,B,C⟩
 cases e<;>simp only [mO]at C<;>simp only [bodyPostS]
 case normal=>obtain⟨v,E,G⟩:=C;exact⟨B.dfr,p,rfl,v,by rw [nP B];exact E,G⟩
 case ret=>obtain⟨v,E,G⟩:=C;exact⟨B.dfr,p,rfl,v,by rw [nP B];exact E,G⟩
 case panic ch=>exact⟨B.dfr,p,rfl,C⟩
theorem eiO_ok {ε α f:Type}{a:α}{k:α->Option f}{h:ε->Option f}{r:f}(q:eiO (.ok a) k h=some r):k a=some r:=q
theorem eiO_er {ε α p:Type}{f:ε}{k:α->Option p}{h:ε->Option p}{r:p}(q:eiO (.error f) k h=some r):h f=some r:=q
end Go.Lf
