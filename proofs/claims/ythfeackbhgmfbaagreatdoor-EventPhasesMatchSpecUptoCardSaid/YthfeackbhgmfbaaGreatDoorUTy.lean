/- Laws that the claim stands on; no condition beyond those stated. -/
import Derived.Test.YthfeackbhgmfbaaGreatDoorNDa
namespace Go.Lf
open Go.RowKit Go.OB
structure gY where
 kind:Int
 at_:Int
 n:Int
 text:Str
 deriving DecidableEq
def aTc:Rp gY:=Rp.iso (Rp.pair (Rp.int .i64) (Rp.pair (Rp.int .i64) (Rp.pair (Rp.int .i64) Rp.str))) λx=>(x.kind,x.at_,x.n,x.text)
structure gK where
 text:Str
 at_:Int
 now:gY
 r:Rules
def bC:Rp gK:=Rp.iso (Rp.pair Rp.str (Rp.pair (Rp.int .i64) (Rp.pair aTc aSd))) λx=>(x.text,x.at_,x.now,x.r)
theorem jB {F:Nat->Prop}{w:World}{cs:List Value}{x:gK}(h:bC.rd F w cs x): ∃a b c,cs=[.string (bs x.text),.int .i64 x.at_,.int .i64 x.now.kind,.int .i64 x.now.at_,.int .i64 x.now.n,.string (bs x.now.text),a,b,c]/\SlF Rp.str F w a x.r.Phases/\SlF fZ F w b x.r.Moves/\SlF dA F w c x.r.Rules:=by
 obtain⟨_,_,rfl,rfl,⟨_,_,rfl,rfl,⟨_,_,rfl,⟨_,_,rfl,rfl,⟨_,_,rfl,rfl,⟨_,_,rfl,rfl,rfl⟩⟩⟩,⟨_,_,rfl,⟨d,rfl,e⟩,⟨_,_,rfl,⟨f,rfl,i⟩,⟨j,rfl,k⟩⟩⟩⟩⟩⟩:=h;exact⟨d,f,j,rfl,e,i,k⟩
theorem kE {F:Nat->Prop}{w:World}{x:gK}{v0 v1 v2:Value}(a:SlF Rp.str F w v0 x.r.Phases)(b:SlF fZ F w v1 x.r.Moves)(c:SlF dA F w v2 x.r.Rules):bC.rd F w [.string (bs x.text),.int .i64 x.at_,.int .i64 x.now.kind,.int .i64 x.now.at_,.int .i64 x.now.n,.string (bs x.now.text),v0,v1,v2] x:=⟨[_],_,rfl,rfl,⟨[_],_,rfl,rfl,⟨[_,_,_,_],_,rfl,⟨[_],_,rfl,rfl,⟨[_],_,rfl,rfl,⟨[_],_,rfl,rfl,rfl⟩⟩⟩,⟨[_],_,rfl,⟨_,rfl,a⟩,⟨[_],_,rfl,⟨_,rfl,b⟩,⟨_,rfl,c⟩⟩⟩⟩⟩⟩
structure eU where
 At:Int
 N:Int
 Mark:Int
 deriving DecidableEq
def aT:Rp eU:=Rp.iso (Rp.pair (Rp.int .i64) (Rp.pair (Rp.int .i64) (Rp.int .i64))) λx=>(x.At,x.N,x.Mark)
theorem cZ {F:Nat->Prop}{w:World}{cs:List Value}{x:eU}(h:aT.rd F w cs x):cs=[.int .i64 x.At,.int .i64 x.N,.int .i64 x.Mark]:=by
 obtain⟨_,_,rfl,rfl,⟨_,_,rfl,rfl,rfl⟩⟩:=h;exact rfl
structure Series where
 Den:Int
 Samples:List eU
 deriving DecidableEq
def aZw:Rp Series:=Rp.iso (Rp.pair (Rp.int .i64) (Rp.sl aT)) λx=>(x.Den,x.Samples)
structure gZ where
 Name:Str
 Series:Series
 Long:Int
 deriving DecidableEq
def aGv:Rp gZ:=Rp.iso (Rp.pair Rp.str (Rp.pair aZw (Rp.int .i64))) λx=>(x.Name,x.Series,x.Long)
theorem dL {F:Nat->Prop}{w:World}{cs:List Value}{x:gZ}(h:aGv.rd F w cs x): ∃a,cs=[.string (bs x.Name),.int .i64 x.Series.Den,a,.int .i64 x.Long]/\SlF aT F w a x.Series.Samples:=by
 obtain⟨_,_,rfl,rfl,⟨_,_,rfl,⟨_,_,rfl,rfl,⟨b,rfl,c⟩⟩,rfl⟩⟩:=h;exact⟨b,rfl,c⟩
structure gQ where
 out:List Int
 deriving DecidableEq
def kD:Rp gQ:=Rp.iso (Rp.sl (Rp.int .u8)) λx=>(x.out)
theorem aAq {F:Nat->Prop}{w:World}{cs:List Value}{x:gQ}(h:kD.rd F w cs x): ∃a,cs=[a]/\SlF (Rp.int .u8) F w a x.out:=by
 obtain⟨v0,rfl,b⟩:=h;exact⟨v0,rfl,b⟩
theorem nS {F:Nat->Prop}{w:World}{x:gQ}{v0:Value}(a:SlF (Rp.int .u8) F w v0 x.out):kD.rd F w [v0] x:=⟨_,rfl,a⟩
structure bG where
 name:Bool
 other:Bool
 op:Bool
 n:Bool
 frames:Bool
 least:Int
 most:Int
 deriving DecidableEq
structure eQ where
 tracks:List (Str×Int)
 dens:List Int
 phases:List Str
 rules:List (Str×Int)
structure gV where
 told:List fD
 possible:List Bool
 rules:List Int
 deriving DecidableEq
structure fF where
 Rule:Int
 From:Int
 To:Int
 Begins:Bool
 Ends:Bool
 deriving DecidableEq
def bD:Rp fF:=Rp.iso (Rp.pair (Rp.int .i64) (Rp.pair (Rp.int .i64) (Rp.pair (Rp.int .i64) (Rp.pair Rp.bool Rp.bool)))) λx=>(x.Rule,x.From,x.To,x.Begins,x.Ends)
theorem jA {F:Nat->Prop}{w:World}{cs:List Value}{x:fF}(h:bD.rd F w cs x):cs=[.int .i64 x.Rule,.int .i64 x.From,.int .i64 x.To,.bool x.Begins,.bool x.Ends]:=by
 obtain⟨_,_,rfl,rfl,⟨_,_,rfl,rfl,⟨_,_,rfl,rfl,⟨_,_,rfl,rfl,rfl⟩⟩⟩⟩:=h;exact rfl
theorem sF {F:Nat->Prop}{w:World}{x:fF}:bD.rd F w [.int .i64 x.Rule,.int .i64 x.From,.int .i64 x.To,.bool x.Begins,.bool x.Ends] x:=⟨[_],_,rfl,rfl,⟨[_],_,rfl,rfl,⟨[_],_,rfl,rfl,⟨[_],_,rfl,rfl,rfl⟩⟩⟩⟩
structure aKg where
 at_:Int
 e:Int
 deriving DecidableEq
end Go.Lf
