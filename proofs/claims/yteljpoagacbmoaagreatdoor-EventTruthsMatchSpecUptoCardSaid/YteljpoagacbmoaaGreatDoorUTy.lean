/- Laws that the claim stands on; no condition beyond those stated. -/
import Derived.Test.YteljpoagacbmoaaGreatDoorNDa
namespace Go.Lf
open Go.RowKit Go.OB
structure gY where
 kind:Int
 at_:Int
 n:Int
 text:Str
 deriving DecidableEq
def aUg:Rp gY:=Rp.iso (Rp.pair (Rp.int .i64) (Rp.pair (Rp.int .i64) (Rp.pair (Rp.int .i64) Rp.str))) λx=>(x.kind,x.at_,x.n,x.text)
structure gJ where
 text:Str
 at_:Int
 now:gY
 r:Rules
def bH:Rp gJ:=Rp.iso (Rp.pair Rp.str (Rp.pair (Rp.int .i64) (Rp.pair aUg aRg))) λx=>(x.text,x.at_,x.now,x.r)
theorem kZ {F:Nat->Prop}{w:World}{cs:List Value}{x:gJ}(h:bH.rd F w cs x): ∃a b c,cs=[.string (bs x.text),.int .i64 x.at_,.int .i64 x.now.kind,.int .i64 x.now.at_,.int .i64 x.now.n,.string (bs x.now.text),a,b,c]/\SlF Rp.str F w a x.r.Phases/\SlF eH F w b x.r.Moves/\SlF dA F w c x.r.Rules:=by
 obtain⟨_,_,rfl,rfl,⟨_,_,rfl,rfl,⟨_,_,rfl,⟨_,_,rfl,rfl,⟨_,_,rfl,rfl,⟨_,_,rfl,rfl,rfl⟩⟩⟩,⟨_,_,rfl,⟨d,rfl,e⟩,⟨_,_,rfl,⟨f,rfl,i⟩,⟨j,rfl,k⟩⟩⟩⟩⟩⟩:=h;exact⟨d,f,j,rfl,e,i,k⟩
theorem aT {F:Nat->Prop}{w:World}{x:gJ}{v0 v1 v2:Value}(a:SlF Rp.str F w v0 x.r.Phases)(b:SlF eH F w v1 x.r.Moves)(c:SlF dA F w v2 x.r.Rules):bH.rd F w [.string (bs x.text),.int .i64 x.at_,.int .i64 x.now.kind,.int .i64 x.now.at_,.int .i64 x.now.n,.string (bs x.now.text),v0,v1,v2] x:=⟨[_],_,rfl,rfl,⟨[_],_,rfl,rfl,⟨[_,_,_,_],_,rfl,⟨[_],_,rfl,rfl,⟨[_],_,rfl,rfl,⟨[_],_,rfl,rfl,rfl⟩⟩⟩,⟨[_],_,rfl,⟨_,rfl,a⟩,⟨[_],_,rfl,⟨_,rfl,b⟩,⟨_,rfl,c⟩⟩⟩⟩⟩⟩
structure dC where
 At:Int
 N:Int
 Mark:Int
 deriving DecidableEq
def aK:Rp dC:=Rp.iso (Rp.pair (Rp.int .i64) (Rp.pair (Rp.int .i64) (Rp.int .i64))) λx=>(x.At,x.N,x.Mark)
theorem bG {F:Nat->Prop}{w:World}{cs:List Value}{x:dC}(h:aK.rd F w cs x):cs=[.int .i64 x.At,.int .i64 x.N,.int .i64 x.Mark]:=by
 obtain⟨_,_,rfl,rfl,⟨_,_,rfl,rfl,rfl⟩⟩:=h;exact rfl
structure Series where
 Den:Int
 Samples:List dC
 deriving DecidableEq
def bAz:Rp Series:=Rp.iso (Rp.pair (Rp.int .i64) (Rp.sl aK)) λx=>(x.Den,x.Samples)
structure fA where
 Name:Str
 Series:Series
 Long:Int
 deriving DecidableEq
def aGm:Rp fA:=Rp.iso (Rp.pair Rp.str (Rp.pair bAz (Rp.int .i64))) λx=>(x.Name,x.Series,x.Long)
theorem dW {F:Nat->Prop}{w:World}{cs:List Value}{x:fA}(h:aGm.rd F w cs x): ∃a,cs=[.string (bs x.Name),.int .i64 x.Series.Den,a,.int .i64 x.Long]/\SlF aK F w a x.Series.Samples:=by
 obtain⟨_,_,rfl,rfl,⟨_,_,rfl,⟨_,_,rfl,rfl,⟨b,rfl,c⟩⟩,rfl⟩⟩:=h;exact⟨b,rfl,c⟩
structure bJ where
 name:Bool
 other:Bool
 op:Bool
 n:Bool
 frames:Bool
 least:Int
 most:Int
 deriving DecidableEq
structure dB where
 tracks:List (Str×Int)
 dens:List Int
 phases:List Str
 rules:List (Str×Int)
structure gU where
 told:List fG
 possible:List Bool
 rules:List Int
 deriving DecidableEq
structure gX where
 out:List Int
 deriving DecidableEq
def mG:Rp gX:=Rp.iso (Rp.sl (Rp.int .u8)) λx=>(x.out)
theorem aAt {F:Nat->Prop}{w:World}{cs:List Value}{x:gX}(h:mG.rd F w cs x): ∃a,cs=[a]/\SlF (Rp.int .u8) F w a x.out:=by
 obtain⟨v0,rfl,b⟩:=h;exact⟨v0,rfl,b⟩
theorem aBh {F:Nat->Prop}{w:World}{x:gX}{v0:Value}(a:SlF (Rp.int .u8) F w v0 x.out):mG.rd F w [v0] x:=⟨_,rfl,a⟩
structure aJk where
 at_:Int
 e:Int
 deriving DecidableEq
end Go.Lf
