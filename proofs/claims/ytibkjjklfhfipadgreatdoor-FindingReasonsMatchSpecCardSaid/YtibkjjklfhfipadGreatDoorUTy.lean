/- Laws that the claim stands on; no condition beyond those stated. -/
import Derived.Test.YtibkjjklfhfipadGreatDoorNDa
namespace Go.Lf
open Go.RowKit Go.OB
structure fD where
 kind:Int
 at_:Int
 n:Int
 text:Str
 deriving DecidableEq
def aUa:Rp fD:=Rp.iso (Rp.pair (Rp.int .i64) (Rp.pair (Rp.int .i64) (Rp.pair (Rp.int .i64) Rp.str))) λx=>(x.kind,x.at_,x.n,x.text)
structure gV where
 text:Str
 at_:Int
 now:fD
 r:Rules
def dW:Rp gV:=Rp.iso (Rp.pair Rp.str (Rp.pair (Rp.int .i64) (Rp.pair aUa aXs))) λx=>(x.text,x.at_,x.now,x.r)
theorem mW {F:Nat->Prop}{w:World}{cs:List Value}{x:gV}(h:dW.rd F w cs x): ∃a v171 b,cs=[.string (bs x.text),.int .i64 x.at_,.int .i64 x.now.kind,.int .i64 x.now.at_,.int .i64 x.now.n,.string (bs x.now.text),a,v171,b]/\SlF Rp.str F w a x.r.Phases/\SlF eQ F w v171 x.r.Moves/\SlF dD F w b x.r.Rules:=by
 obtain⟨_,_,rfl,rfl,⟨_,_,rfl,rfl,⟨_,_,rfl,⟨_,_,rfl,rfl,⟨_,_,rfl,rfl,⟨_,_,rfl,rfl,rfl⟩⟩⟩,⟨_,_,rfl,⟨c,rfl,d⟩,⟨_,_,rfl,⟨e,rfl,f⟩,⟨i,rfl,j⟩⟩⟩⟩⟩⟩:=h;exact⟨c,e,i,rfl,d,f,j⟩
theorem aZ {F:Nat->Prop}{w:World}{x:gV}{v0 v1 v2:Value}(a:SlF Rp.str F w v0 x.r.Phases)(b:SlF eQ F w v1 x.r.Moves)(c:SlF dD F w v2 x.r.Rules):dW.rd F w [.string (bs x.text),.int .i64 x.at_,.int .i64 x.now.kind,.int .i64 x.now.at_,.int .i64 x.now.n,.string (bs x.now.text),v0,v1,v2] x:=⟨[_],_,rfl,rfl,⟨[_],_,rfl,rfl,⟨[_,_,_,_],_,rfl,⟨[_],_,rfl,rfl,⟨[_],_,rfl,rfl,⟨[_],_,rfl,rfl,rfl⟩⟩⟩,⟨[_],_,rfl,⟨_,rfl,a⟩,⟨[_],_,rfl,⟨_,rfl,b⟩,⟨_,rfl,c⟩⟩⟩⟩⟩⟩
structure eP where
 At:Int
 N:Int
 Mark:Int
 deriving DecidableEq
def bK:Rp eP:=Rp.iso (Rp.pair (Rp.int .i64) (Rp.pair (Rp.int .i64) (Rp.int .i64))) λx=>(x.At,x.N,x.Mark)
theorem dX {F:Nat->Prop}{w:World}{cs:List Value}{x:eP}(h:bK.rd F w cs x):cs=[.int .i64 x.At,.int .i64 x.N,.int .i64 x.Mark]:=by
 obtain⟨_,_,rfl,rfl,⟨_,_,rfl,rfl,rfl⟩⟩:=h;exact rfl
structure Series where
 Den:Int
 Samples:List eP
 deriving DecidableEq
def bDu:Rp Series:=Rp.iso (Rp.pair (Rp.int .i64) (Rp.sl bK)) λx=>(x.Den,x.Samples)
structure Track where
 Name:Str
 Series:Series
 Long:Int
 deriving DecidableEq
def aCn:Rp Track:=Rp.iso (Rp.pair Rp.str (Rp.pair bDu (Rp.int .i64))) λx=>(x.Name,x.Series,x.Long)
theorem xX {F:Nat->Prop}{w:World}{cs:List Value}{x:Track}(h:aCn.rd F w cs x): ∃a,cs=[.string (bs x.Name),.int .i64 x.Series.Den,a,.int .i64 x.Long]/\SlF bK F w a x.Series.Samples:=by
 obtain⟨_,_,rfl,rfl,⟨_,_,rfl,⟨_,_,rfl,rfl,⟨b,rfl,c⟩⟩,rfl⟩⟩:=h;exact⟨b,rfl,c⟩
structure gX where
 out:List Int
 deriving DecidableEq
def kY:Rp gX:=Rp.iso (Rp.sl (Rp.int .u8)) λx=>(x.out)
theorem aBf {F:Nat->Prop}{w:World}{cs:List Value}{x:gX}(h:kY.rd F w cs x): ∃v175,cs=[v175]/\SlF (Rp.int .u8) F w v175 x.out:=by
 obtain⟨v0,rfl,a⟩:=h;exact⟨v0,rfl,a⟩
theorem tZ {F:Nat->Prop}{w:World}{x:gX}{v0:Value}(a:SlF (Rp.int .u8) F w v0 x.out):kY.rd F w [v0] x:=⟨_,rfl,a⟩
structure kX where
 Track:Str
 Number:Int
 deriving DecidableEq
def aP:Rp kX:=Rp.iso (Rp.pair Rp.str (Rp.int .i64)) λx=>(x.Track,x.Number)
theorem aLt {F:Nat->Prop}{w:World}{cs:List Value}{x:kX}(h:aP.rd F w cs x):cs=[.string (bs x.Track),.int .i64 x.Number]:=by
 obtain⟨_,_,rfl,rfl,rfl⟩:=h;exact rfl
theorem aWk {F:Nat->Prop}{w:World}{x:kX}:aP.rd F w [.string (bs x.Track),.int .i64 x.Number] x:=⟨[_],_,rfl,rfl,rfl⟩
structure dY where
 name:Bool
 other:Bool
 op:Bool
 n:Bool
 frames:Bool
 least:Int
 most:Int
 deriving DecidableEq
structure fC where
 r:Rules
 l:List Track
 first:Int
 number:Int
 told:List (List gY)
structure eH where
 tracks:List (Str×Int)
 dens:List Int
 phases:List Str
 rules:List (Str×Int)
structure gQ where
 told:List gY
 possible:List Bool
 rules:List Int
 deriving DecidableEq
structure aKf where
 at_:Int
 e:Int
 deriving DecidableEq
end Go.Lf
