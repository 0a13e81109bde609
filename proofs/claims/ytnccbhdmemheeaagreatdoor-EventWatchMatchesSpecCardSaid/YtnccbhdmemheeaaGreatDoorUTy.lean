/- Laws that the claim stands on; no condition beyond those stated. -/
import Derived.Test.YtnccbhdmemheeaaGreatDoorNDa
namespace Go.Lf
open Go.RowKit Go.OB
structure fA where
 kind:Int
 at_:Int
 n:Int
 text:Str
 deriving DecidableEq
def aTh:Rp fA:=Rp.iso (Rp.pair (Rp.int .i64) (Rp.pair (Rp.int .i64) (Rp.pair (Rp.int .i64) Rp.str))) λx=>(x.kind,x.at_,x.n,x.text)
structure gK where
 text:Str
 at_:Int
 now:fA
 r:Rules
def dZ:Rp gK:=Rp.iso (Rp.pair Rp.str (Rp.pair (Rp.int .i64) (Rp.pair aTh aMe))) λx=>(x.text,x.at_,x.now,x.r)
theorem kX {F:Nat->Prop}{w:World}{cs:List Value}{x:gK}(h:dZ.rd F w cs x): ∃a b c,cs=[.string (bs x.text),.int .i64 x.at_,.int .i64 x.now.kind,.int .i64 x.now.at_,.int .i64 x.now.n,.string (bs x.now.text),a,b,c]/\SlF Rp.str F w a x.r.Phases/\SlF fV F w b x.r.Moves/\SlF eY F w c x.r.Rules:=by
 obtain⟨_,_,rfl,rfl,⟨_,_,rfl,rfl,⟨_,_,rfl,⟨_,_,rfl,rfl,⟨_,_,rfl,rfl,⟨_,_,rfl,rfl,rfl⟩⟩⟩,⟨_,_,rfl,⟨d,rfl,e⟩,⟨_,_,rfl,⟨f,rfl,i⟩,⟨j,rfl,k⟩⟩⟩⟩⟩⟩:=h;exact⟨d,f,j,rfl,e,i,k⟩
theorem aX {F:Nat->Prop}{w:World}{x:gK}{v0 v1 v2:Value}(a:SlF Rp.str F w v0 x.r.Phases)(b:SlF fV F w v1 x.r.Moves)(c:SlF eY F w v2 x.r.Rules):dZ.rd F w [.string (bs x.text),.int .i64 x.at_,.int .i64 x.now.kind,.int .i64 x.now.at_,.int .i64 x.now.n,.string (bs x.now.text),v0,v1,v2] x:=⟨[_],_,rfl,rfl,⟨[_],_,rfl,rfl,⟨[_,_,_,_],_,rfl,⟨[_],_,rfl,rfl,⟨[_],_,rfl,rfl,⟨[_],_,rfl,rfl,rfl⟩⟩⟩,⟨[_],_,rfl,⟨_,rfl,a⟩,⟨[_],_,rfl,⟨_,rfl,b⟩,⟨_,rfl,c⟩⟩⟩⟩⟩⟩
structure nP where
 At:Int
 N:Int
 Mark:Int
 deriving DecidableEq
def dU:Rp nP:=Rp.iso (Rp.pair (Rp.int .i64) (Rp.pair (Rp.int .i64) (Rp.int .i64))) λx=>(x.At,x.N,x.Mark)
theorem qU {F:Nat->Prop}{w:World}{cs:List Value}{x:nP}(h:dU.rd F w cs x):cs=[.int .i64 x.At,.int .i64 x.N,.int .i64 x.Mark]:=by
 obtain⟨_,_,rfl,rfl,⟨_,_,rfl,rfl,rfl⟩⟩:=h;exact rfl
structure Series where
 Den:Int
 Samples:List nP
 deriving DecidableEq
def bBj:Rp Series:=Rp.iso (Rp.pair (Rp.int .i64) (Rp.sl dU)) λx=>(x.Den,x.Samples)
structure fF where
 Name:Str
 Series:Series
 Long:Int
 deriving DecidableEq
def aHm:Rp fF:=Rp.iso (Rp.pair Rp.str (Rp.pair bBj (Rp.int .i64))) λx=>(x.Name,x.Series,x.Long)
theorem bM {F:Nat->Prop}{w:World}{cs:List Value}{x:fF}(h:aHm.rd F w cs x): ∃a,cs=[.string (bs x.Name),.int .i64 x.Series.Den,a,.int .i64 x.Long]/\SlF dU F w a x.Series.Samples:=by
 obtain⟨_,_,rfl,rfl,⟨_,_,rfl,⟨_,_,rfl,rfl,⟨b,rfl,c⟩⟩,rfl⟩⟩:=h;exact⟨b,rfl,c⟩
structure bD where
 name:Bool
 other:Bool
 op:Bool
 n:Bool
 frames:Bool
 least:Int
 most:Int
 deriving DecidableEq
structure eF where
 tracks:List (Str×Int)
 dens:List Int
 phases:List Str
 rules:List (Str×Int)
structure aLw where
 at_:Int
 e:Int
 deriving DecidableEq
structure gU where
 told:List fD
 possible:List Bool
 rules:List Int
 deriving DecidableEq
structure gX where
 out:List Int
 deriving DecidableEq
def jA:Rp gX:=Rp.iso (Rp.sl (Rp.int .u8)) λx=>(x.out)
theorem aBq {F:Nat->Prop}{w:World}{cs:List Value}{x:gX}(h:jA.rd F w cs x): ∃a,cs=[a]/\SlF (Rp.int .u8) F w a x.out:=by
 obtain⟨v0,rfl,b⟩:=h;exact⟨v0,rfl,b⟩
theorem tC {F:Nat->Prop}{w:World}{x:gX}{v0:Value}(a:SlF (Rp.int .u8) F w v0 x.out):jA.rd F w [v0] x:=⟨_,rfl,a⟩
end Go.Lf
