/- Laws that the claim stands on; no condition beyond those stated. -/
import Derived.Test.YthgccglopkgghaaGreatDoorXVp
namespace Go.Lf
open Go.RowKit Go.OB
structure gQ where
 at_:Int
 e:Int
 deriving DecidableEq
structure gK where
 kind:Int
 at_:Int
 n:Int
 text:Str
 deriving DecidableEq
def aGj:Rp gK:=Rp.iso (Rp.pair (Rp.int .i64) (Rp.pair (Rp.int .i64) (Rp.pair (Rp.int .i64) Rp.str))) λx=>(x.kind,x.at_,x.n,x.text)
structure Cond where
 Kind:Int
 Name:Str
 Other:Str
 Op:Int
 N:Int
 Frames:Int
 Kids:List Cond
def qZ:Nat->Rp Cond
 |0=>Rp.bot 7
 |n+1=>Rp.iso (Rp.pair (Rp.int .i64) (Rp.pair Rp.str (Rp.pair Rp.str (Rp.pair (Rp.int .i64) (Rp.pair (Rp.int .i64) (Rp.pair (Rp.int .i64) (Rp.sl (qZ n)))))))) λx=>(x.Kind,x.Name,x.Other,x.Op,x.N,x.Frames,x.Kids)
theorem aDk: ∀n,(qZ n).sz=7
 |0=>rfl
 |_+1=>rfl
theorem xZ {F:Nat->Prop}{w:World}{n:Nat}{cs:List Value}{x:Cond}(h:(qZ (n+1)).rd F w cs x): ∃v0,cs=[.int .i64 x.Kind,.string (bs x.Name),.string (bs x.Other),.int .i64 x.Op,.int .i64 x.N,.int .i64 x.Frames,v0]/\SlF (qZ n) F w v0 x.Kids:=by
 obtain⟨_,_,rfl,rfl,⟨_,_,rfl,rfl,⟨_,_,rfl,rfl,⟨_,_,rfl,rfl,⟨_,_,rfl,rfl,⟨_,_,rfl,rfl,⟨v0,rfl,a⟩⟩⟩⟩⟩⟩⟩:=h;exact⟨v0,rfl,a⟩
theorem aCx {F:Nat->Prop}{w:World}{n:Nat}{x:Cond}{v0:Value}(a:SlF (qZ n) F w v0 x.Kids):(qZ (n+1)).rd F w [.int .i64 x.Kind,.string (bs x.Name),.string (bs x.Other),.int .i64 x.Op,.int .i64 x.N,.int .i64 x.Frames,v0] x:=⟨[_],_,rfl,rfl,⟨[_],_,rfl,rfl,⟨[_],_,rfl,rfl,⟨[_],_,rfl,rfl,⟨[_],_,rfl,rfl,⟨[_],_,rfl,rfl,⟨_,rfl,a⟩⟩⟩⟩⟩⟩⟩
theorem aCz: ∀n,(qZ n).le (qZ (n+1))
 |0=>⟨rfl,λ_ _ _ _ h=>h.elim⟩
 |n+1=>⟨rfl,λF w cs x h=>by
  obtain⟨v0,rfl,a⟩:=xZ h;exact aCx (slf_le (aCz n) a)⟩
def fD:Rp Cond:=Rp.lim qZ 7 aDk
theorem eX {F:Nat->Prop}{w:World}{cs:List Value}{x:Cond}(h:fD.rd F w cs x): ∃v0,cs=[.int .i64 x.Kind,.string (bs x.Name),.string (bs x.Other),.int .i64 x.Op,.int .i64 x.N,.int .i64 x.Frames,v0]/\SlF (fD) F w v0 x.Kids:=by
 obtain⟨n,h⟩:=h
 cases n with
 |zero=>exact h.elim
 |succ n=>
  obtain⟨v0,rfl,a⟩:=xZ h;exact⟨v0,rfl,slf_le (le_lim (h:=aDk) n) a⟩
theorem dX {F:Nat->Prop}{w:World}{x:Cond}{v0:Value}(a:SlF (fD) F w v0 x.Kids):fD.rd F w [.int .i64 x.Kind,.string (bs x.Name),.string (bs x.Other),.int .i64 x.Op,.int .i64 x.N,.int .i64 x.Frames,v0] x:=by
 obtain⟨n,a⟩:=aMr aCz a;exact⟨n+1,aCx a⟩
structure fQ where
 From:Str
 To:Str
 When:Cond
def fC:Rp fQ:=Rp.iso (Rp.pair Rp.str (Rp.pair Rp.str fD)) λx=>(x.From,x.To,x.When)
theorem kV {F:Nat->Prop}{w:World}{cs:List Value}{x:fQ}(h:fC.rd F w cs x): ∃a,cs=[.string (bs x.From),.string (bs x.To),.int .i64 x.When.Kind,.string (bs x.When.Name),.string (bs x.When.Other),.int .i64 x.When.Op,.int .i64 x.When.N,.int .i64 x.When.Frames,a]/\SlF fD F w a x.When.Kids:=by
 obtain⟨_,_,rfl,rfl,⟨_,_,rfl,rfl,d⟩⟩:=h;obtain⟨b,rfl,c⟩:=eX d;exact⟨b,rfl,c⟩
theorem rMoveT_mk {F:Nat->Prop}{w:World}{x:fQ}{v0:Value}(a:SlF fD F w v0 x.When.Kids):fC.rd F w [.string (bs x.From),.string (bs x.To),.int .i64 x.When.Kind,.string (bs x.When.Name),.string (bs x.When.Other),.int .i64 x.When.Op,.int .i64 x.When.N,.int .i64 x.When.Frames,v0] x:=⟨[_],_,rfl,rfl,⟨[_],_,rfl,rfl,(dX a)⟩⟩
structure dJ where
 Name:Str
 When:Cond
def fO:Rp dJ:=Rp.iso (Rp.pair Rp.str fD) λx=>(x.Name,x.When)
theorem bT {F:Nat->Prop}{w:World}{cs:List Value}{x:dJ}(h:fO.rd F w cs x): ∃v154,cs=[.string (bs x.Name),.int .i64 x.When.Kind,.string (bs x.When.Name),.string (bs x.When.Other),.int .i64 x.When.Op,.int .i64 x.When.N,.int .i64 x.When.Frames,v154]/\SlF fD F w v154 x.When.Kids:=by
 obtain⟨_,_,rfl,rfl,c⟩:=h;obtain⟨a,rfl,b⟩:=eX c;exact⟨a,rfl,b⟩
theorem rRule_mk {F:Nat->Prop}{w:World}{x:dJ}{v0:Value}(a:SlF fD F w v0 x.When.Kids):fO.rd F w [.string (bs x.Name),.int .i64 x.When.Kind,.string (bs x.When.Name),.string (bs x.When.Other),.int .i64 x.When.Op,.int .i64 x.When.N,.int .i64 x.When.Frames,v0] x:=⟨[_],_,rfl,rfl,(dX a)⟩
structure Rules where
 Phases:List Str
 Moves:List fQ
 Rules:List dJ
def rRules:Rp Rules:=Rp.iso (Rp.pair (Rp.sl Rp.str) (Rp.pair (Rp.sl fC) (Rp.sl fO))) λx=>(x.Phases,x.Moves,x.Rules)
theorem rRules_open {F:Nat->Prop}{w:World}{cs:List Value}{x:Rules}(h:rRules.rd F w cs x): ∃a b v157,cs=[a,b,v157]/\SlF Rp.str F w a x.Phases/\SlF fC F w b x.Moves/\SlF fO F w v157 x.Rules:=by
 obtain⟨_,_,rfl,⟨v0,rfl,c⟩,⟨_,_,rfl,⟨v1,rfl,d⟩,⟨v2,rfl,e⟩⟩⟩:=h;exact⟨v0,v1,v2,rfl,c,d,e⟩
structure gB where
 text:Str
 at_:Int
 now:gK
 r:Rules
def fM:Rp gB:=Rp.iso (Rp.pair Rp.str (Rp.pair (Rp.int .i64) (Rp.pair aGj rRules))) λx=>(x.text,x.at_,x.now,x.r)
theorem cO {F:Nat->Prop}{w:World}{cs:List Value}{x:gB}(h:fM.rd F w cs x): ∃a v159 v160,cs=[.string (bs x.text),.int .i64 x.at_,.int .i64 x.now.kind,.int .i64 x.now.at_,.int .i64 x.now.n,.string (bs x.now.text),a,v159,v160]/\SlF Rp.str F w a x.r.Phases/\SlF fC F w v159 x.r.Moves/\SlF fO F w v160 x.r.Rules:=by
 obtain⟨_,_,rfl,rfl,⟨_,_,rfl,rfl,⟨_,_,rfl,⟨_,_,rfl,rfl,⟨_,_,rfl,rfl,⟨_,_,rfl,rfl,rfl⟩⟩⟩,⟨_,_,rfl,⟨b,rfl,c⟩,⟨_,_,rfl,⟨d,rfl,e⟩,⟨f,rfl,g⟩⟩⟩⟩⟩⟩:=h;exact⟨b,d,f,rfl,c,e,g⟩
theorem yT {F:Nat->Prop}{w:World}{x:gB}{v0 v1 v2:Value}(a:SlF Rp.str F w v0 x.r.Phases)(b:SlF fC F w v1 x.r.Moves)(c:SlF fO F w v2 x.r.Rules):fM.rd F w [.string (bs x.text),.int .i64 x.at_,.int .i64 x.now.kind,.int .i64 x.now.at_,.int .i64 x.now.n,.string (bs x.now.text),v0,v1,v2] x:=⟨[_],_,rfl,rfl,⟨[_],_,rfl,rfl,⟨[_,_,_,_],_,rfl,⟨[_],_,rfl,rfl,⟨[_],_,rfl,rfl,⟨[_],_,rfl,rfl,rfl⟩⟩⟩,⟨[_],_,rfl,⟨_,rfl,a⟩,⟨[_],_,rfl,⟨_,rfl,b⟩,⟨_,rfl,c⟩⟩⟩⟩⟩⟩
structure dI where
 name:Bool
 other:Bool
 op:Bool
 n:Bool
 frames:Bool
 least:Int
 most:Int
 deriving DecidableEq
structure gJ where
 out:List Int
 deriving DecidableEq
def aI:Rp gJ:=Rp.iso (Rp.sl (Rp.int .u8)) λx=>(x.out)
theorem rD {F:Nat->Prop}{w:World}{cs:List Value}{x:gJ}(h:aI.rd F w cs x): ∃a,cs=[a]/\SlF (Rp.int .u8) F w a x.out:=by
 obtain⟨v0,rfl,b⟩:=h;exact⟨v0,rfl,b⟩
theorem rU {F:Nat->Prop}{w:World}{x:gJ}{v0:Value}(a:SlF (Rp.int .u8) F w v0 x.out):aI.rd F w [v0] x:=⟨_,rfl,a⟩
structure gW where
 kind:Int
 at_:Int
 text:Str
 n:Int
 deriving DecidableEq
structure gG where
 l:List gW
 at_:Int
 pos:Int
 e:Int
 deriving DecidableEq
end Go.Lf
