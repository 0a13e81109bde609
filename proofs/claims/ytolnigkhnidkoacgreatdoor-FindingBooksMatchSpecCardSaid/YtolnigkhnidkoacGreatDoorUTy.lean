/- Laws that the claim stands on; no condition beyond those stated. -/
import Derived.Test.YtolnigkhnidkoacGreatDoorXVp
namespace Go.Lf
open Go.RowKit Go.OB
structure fD where
 kind:Int
 at_:Int
 n:Int
 text:Str
 deriving DecidableEq
def aQu:Rp fD:=Rp.iso (Rp.pair (Rp.int .i64) (Rp.pair (Rp.int .i64) (Rp.pair (Rp.int .i64) Rp.str))) λx=>(x.kind,x.at_,x.n,x.text)
structure Cond where
 Kind:Int
 Name:Str
 Other:Str
 Op:Int
 N:Int
 Frames:Int
 Kids:List Cond
def aBo:Nat->Rp Cond
 |0=>Rp.bot 7
 |n+1=>Rp.iso (Rp.pair (Rp.int .i64) (Rp.pair Rp.str (Rp.pair Rp.str (Rp.pair (Rp.int .i64) (Rp.pair (Rp.int .i64) (Rp.pair (Rp.int .i64) (Rp.sl (aBo n)))))))) λx=>(x.Kind,x.Name,x.Other,x.Op,x.N,x.Frames,x.Kids)
theorem aNh: ∀n,(aBo n).sz=7
 |0=>rfl
 |_+1=>rfl
theorem aId {F:Nat->Prop}{w:World}{n:Nat}{cs:List Value}{x:Cond}(h:(aBo (n+1)).rd F w cs x): ∃v0,cs=[.int .i64 x.Kind,.string (bs x.Name),.string (bs x.Other),.int .i64 x.Op,.int .i64 x.N,.int .i64 x.Frames,v0]/\SlF (aBo n) F w v0 x.Kids:=by
 obtain⟨_,_,rfl,rfl,⟨_,_,rfl,rfl,⟨_,_,rfl,rfl,⟨_,_,rfl,rfl,⟨_,_,rfl,rfl,⟨_,_,rfl,rfl,⟨v0,rfl,a⟩⟩⟩⟩⟩⟩⟩:=h;exact⟨v0,rfl,a⟩
theorem aNw {F:Nat->Prop}{w:World}{n:Nat}{x:Cond}{v0:Value}(a:SlF (aBo n) F w v0 x.Kids):(aBo (n+1)).rd F w [.int .i64 x.Kind,.string (bs x.Name),.string (bs x.Other),.int .i64 x.Op,.int .i64 x.N,.int .i64 x.Frames,v0] x:=⟨[_],_,rfl,rfl,⟨[_],_,rfl,rfl,⟨[_],_,rfl,rfl,⟨[_],_,rfl,rfl,⟨[_],_,rfl,rfl,⟨[_],_,rfl,rfl,⟨_,rfl,a⟩⟩⟩⟩⟩⟩⟩
theorem aOc: ∀n,(aBo n).le (aBo (n+1))
 |0=>⟨rfl,λ_ _ _ _ h=>h.elim⟩
 |n+1=>⟨rfl,λF w cs x h=>by
  obtain⟨v0,rfl,a⟩:=aId h;exact aNw (slf_le (aOc n) a)⟩
def nX:Rp Cond:=Rp.lim aBo 7 aNh
theorem aEl {F:Nat->Prop}{w:World}{cs:List Value}{x:Cond}(h:nX.rd F w cs x): ∃v0,cs=[.int .i64 x.Kind,.string (bs x.Name),.string (bs x.Other),.int .i64 x.Op,.int .i64 x.N,.int .i64 x.Frames,v0]/\SlF (nX) F w v0 x.Kids:=by
 obtain⟨n,h⟩:=h
 cases n with
 |zero=>exact h.elim
 |succ n=>
  obtain⟨v0,rfl,a⟩:=aId h;exact⟨v0,rfl,slf_le (le_lim (h:=aNh) n) a⟩
theorem aLe {F:Nat->Prop}{w:World}{x:Cond}{v0:Value}(a:SlF (nX) F w v0 x.Kids):nX.rd F w [.int .i64 x.Kind,.string (bs x.Name),.string (bs x.Other),.int .i64 x.Op,.int .i64 x.N,.int .i64 x.Frames,v0] x:=by
 obtain⟨n,a⟩:=slf_lim aOc a;exact⟨n+1,aNw a⟩
structure aOe where
 From:Str
 To:Str
 When:Cond
def eF:Rp aOe:=Rp.iso (Rp.pair Rp.str (Rp.pair Rp.str nX)) λx=>(x.From,x.To,x.When)
structure rF where
 Name:Str
 When:Cond
def eP:Rp rF:=Rp.iso (Rp.pair Rp.str nX) λx=>(x.Name,x.When)
theorem qC {F:Nat->Prop}{w:World}{cs:List Value}{x:rF}(h:eP.rd F w cs x): ∃v222,cs=[.string (bs x.Name),.int .i64 x.When.Kind,.string (bs x.When.Name),.string (bs x.When.Other),.int .i64 x.When.Op,.int .i64 x.When.N,.int .i64 x.When.Frames,v222]/\SlF nX F w v222 x.When.Kids:=by
 obtain⟨_,_,rfl,rfl,c⟩:=h;obtain⟨a,rfl,b⟩:=aEl c;exact⟨a,rfl,b⟩
theorem aSj {F:Nat->Prop}{w:World}{x:rF}{v0:Value}(a:SlF nX F w v0 x.When.Kids):eP.rd F w [.string (bs x.Name),.int .i64 x.When.Kind,.string (bs x.When.Name),.string (bs x.When.Other),.int .i64 x.When.Op,.int .i64 x.When.N,.int .i64 x.When.Frames,v0] x:=⟨[_],_,rfl,rfl,(aLe a)⟩
structure Rules where
 Phases:List Str
 Moves:List aOe
 Rules:List rF
def rRules:Rp Rules:=Rp.iso (Rp.pair (Rp.sl Rp.str) (Rp.pair (Rp.sl eF) (Rp.sl eP))) λx=>(x.Phases,x.Moves,x.Rules)
structure gK where
 text:Str
 at_:Int
 now:fD
 r:Rules
def dH:Rp gK:=Rp.iso (Rp.pair Rp.str (Rp.pair (Rp.int .i64) (Rp.pair aQu rRules))) λx=>(x.text,x.at_,x.now,x.r)
theorem jT {F:Nat->Prop}{w:World}{cs:List Value}{x:gK}(h:dH.rd F w cs x): ∃v226 v227 v228,cs=[.string (bs x.text),.int .i64 x.at_,.int .i64 x.now.kind,.int .i64 x.now.at_,.int .i64 x.now.n,.string (bs x.now.text),v226,v227,v228]/\SlF Rp.str F w v226 x.r.Phases/\SlF eF F w v227 x.r.Moves/\SlF eP F w v228 x.r.Rules:=by
 obtain⟨_,_,rfl,rfl,⟨_,_,rfl,rfl,⟨_,_,rfl,⟨_,_,rfl,rfl,⟨_,_,rfl,rfl,⟨_,_,rfl,rfl,rfl⟩⟩⟩,⟨_,_,rfl,⟨a,rfl,b⟩,⟨_,_,rfl,⟨c,rfl,d⟩,⟨e,rfl,f⟩⟩⟩⟩⟩⟩:=h;exact⟨a,c,e,rfl,b,d,f⟩
theorem aB {F:Nat->Prop}{w:World}{x:gK}{v0 v1 v2:Value}(a:SlF Rp.str F w v0 x.r.Phases)(b:SlF eF F w v1 x.r.Moves)(c:SlF eP F w v2 x.r.Rules):dH.rd F w [.string (bs x.text),.int .i64 x.at_,.int .i64 x.now.kind,.int .i64 x.now.at_,.int .i64 x.now.n,.string (bs x.now.text),v0,v1,v2] x:=⟨[_],_,rfl,rfl,⟨[_],_,rfl,rfl,⟨[_,_,_,_],_,rfl,⟨[_],_,rfl,rfl,⟨[_],_,rfl,rfl,⟨[_],_,rfl,rfl,rfl⟩⟩⟩,⟨[_],_,rfl,⟨_,rfl,a⟩,⟨[_],_,rfl,⟨_,rfl,b⟩,⟨_,rfl,c⟩⟩⟩⟩⟩⟩
structure Part where
 Frame:Int
 Word:Int
 Low:Int
 Bits:Int
 deriving DecidableEq
def jP:Rp Part:=Rp.iso (Rp.pair (Rp.int .i64) (Rp.pair (Rp.int .i64) (Rp.pair (Rp.int .i64) (Rp.int .i64)))) λx=>(x.Frame,x.Word,x.Low,x.Bits)
theorem kQ {F:Nat->Prop}{w:World}{cs:List Value}{x:Part}(h:jP.rd F w cs x):cs=[.int .i64 x.Frame,.int .i64 x.Word,.int .i64 x.Low,.int .i64 x.Bits]:=by
 obtain⟨_,_,rfl,rfl,⟨_,_,rfl,rfl,⟨_,_,rfl,rfl,rfl⟩⟩⟩:=h;exact rfl
structure Param where
 Name:Str
 Kind:Int
 Parts:List Part
 First:Int
 Every:Int
 Times:Int
 Step:Int
 Names:List Str
 deriving DecidableEq
def tZ:Rp Param:=Rp.iso (Rp.pair Rp.str (Rp.pair (Rp.int .i64) (Rp.pair (Rp.sl jP) (Rp.pair (Rp.int .i64) (Rp.pair (Rp.int .i64) (Rp.pair (Rp.int .i64) (Rp.pair (Rp.int .i64) (Rp.sl Rp.str)))))))) λx=>(x.Name,x.Kind,x.Parts,x.First,x.Every,x.Times,x.Step,x.Names)
theorem wF {F:Nat->Prop}{w:World}{cs:List Value}{x:Param}(h:tZ.rd F w cs x): ∃v229 a,cs=[.string (bs x.Name),.int .i64 x.Kind,v229,.int .i64 x.First,.int .i64 x.Every,.int .i64 x.Times,.int .i64 x.Step,a]/\SlF jP F w v229 x.Parts/\SlF Rp.str F w a x.Names:=by
 obtain⟨_,_,rfl,rfl,⟨_,_,rfl,rfl,⟨_,_,rfl,⟨v2,rfl,b⟩,⟨_,_,rfl,rfl,⟨_,_,rfl,rfl,⟨_,_,rfl,rfl,⟨_,_,rfl,rfl,⟨c,rfl,d⟩⟩⟩⟩⟩⟩⟩⟩:=h;exact⟨v2,c,rfl,b,d⟩
theorem aOg {F:Nat->Prop}{w:World}{x:Param}{v0 v1:Value}(a:SlF jP F w v0 x.Parts)(b:SlF Rp.str F w v1 x.Names):tZ.rd F w [.string (bs x.Name),.int .i64 x.Kind,v0,.int .i64 x.First,.int .i64 x.Every,.int .i64 x.Times,.int .i64 x.Step,v1] x:=⟨[_],_,rfl,rfl,⟨[_],_,rfl,rfl,⟨[_],_,rfl,⟨_,rfl,a⟩,⟨[_],_,rfl,rfl,⟨[_],_,rfl,rfl,⟨[_],_,rfl,rfl,⟨[_],_,rfl,rfl,⟨_,rfl,b⟩⟩⟩⟩⟩⟩⟩⟩
structure Map where
 Version:Int
 Params:List Param
 deriving DecidableEq
def rMap:Rp Map:=Rp.iso (Rp.pair (Rp.int .i64) (Rp.sl tZ)) λx=>(x.Version,x.Params)
structure Line where
 From:Int
 To:Int
 A:Int
 B:Int
 deriving DecidableEq
def aEf:Rp Line:=Rp.iso (Rp.pair (Rp.int .i64) (Rp.pair (Rp.int .i64) (Rp.pair (Rp.int .i64) (Rp.int .i64)))) λx=>(x.From,x.To,x.A,x.B)
theorem mX {F:Nat->Prop}{w:World}{cs:List Value}{x:Line}(h:aEf.rd F w cs x):cs=[.int .i64 x.From,.int .i64 x.To,.int .i64 x.A,.int .i64 x.B]:=by
 obtain⟨_,_,rfl,rfl,⟨_,_,rfl,rfl,⟨_,_,rfl,rfl,rfl⟩⟩⟩:=h;exact rfl
structure fA where
 Den:Int
 Lines:List Line
 Low:Int
 High:Int
 deriving DecidableEq
def eU:Rp fA:=Rp.iso (Rp.pair (Rp.int .i64) (Rp.pair (Rp.sl aEf) (Rp.pair (Rp.int .i64) (Rp.int .i64)))) λx=>(x.Den,x.Lines,x.Low,x.High)
theorem jZ {F:Nat->Prop}{w:World}{cs:List Value}{x:fA}(h:eU.rd F w cs x): ∃v232,cs=[.int .i64 x.Den,v232,.int .i64 x.Low,.int .i64 x.High]/\SlF aEf F w v232 x.Lines:=by
 obtain⟨_,_,rfl,rfl,⟨_,_,rfl,⟨v1,rfl,a⟩,⟨_,_,rfl,rfl,rfl⟩⟩⟩:=h;exact⟨v1,rfl,a⟩
structure fQ where
 Track:Str
 Param:Str
 Meaning:List fA
 Long:Int
 deriving DecidableEq
def tC:Rp fQ:=Rp.iso (Rp.pair Rp.str (Rp.pair Rp.str (Rp.pair (Rp.sl eU) (Rp.int .i64)))) λx=>(x.Track,x.Param,x.Meaning,x.Long)
theorem aQ {F:Nat->Prop}{w:World}{cs:List Value}{x:fQ}(h:tC.rd F w cs x): ∃v233,cs=[.string (bs x.Track),.string (bs x.Param),v233,.int .i64 x.Long]/\SlF eU F w v233 x.Meaning:=by
 obtain⟨_,_,rfl,rfl,⟨_,_,rfl,rfl,⟨_,_,rfl,⟨v2,rfl,a⟩,rfl⟩⟩⟩:=h;exact⟨v2,rfl,a⟩
structure gU where
 Number:Int
 Frame:Arr 64 Int
 States:Arr 64 Int
 Sound:Bool
 Copies:Int
 Conflict:Bool
 deriving DecidableEq
def bT:Rp gU:=Rp.iso (Rp.pair (Rp.int .i64) (Rp.pair (Rp.fl (Fl.arr 64 (Fl.int .u16))) (Rp.pair (Rp.fl (Fl.arr 64 (Fl.int .i64))) (Rp.pair Rp.bool (Rp.pair (Rp.int .i64) Rp.bool))))) λx=>(x.Number,x.Frame,x.States,x.Sound,x.Copies,x.Conflict)
def pK:Fl gU:=Fl.iso (Fl.pair (Fl.int .i64) (Fl.pair (Fl.arr 64 (Fl.int .u16)) (Fl.pair (Fl.arr 64 (Fl.int .i64)) (Fl.pair Fl.bool (Fl.pair (Fl.int .i64) Fl.bool))))) λx=>(x.Number,x.Frame,x.States,x.Sound,x.Copies,x.Conflict)
theorem yX {F:Nat->Prop}{w:World}{cs:List Value}{x:gU}(h:bT.rd F w cs x):cs=([.int .i64 x.Number]:List Value)++(((Fl.arr 64 (Fl.int .u16)).f x.Frame)++(((Fl.arr 64 (Fl.int .i64)).f x.States)++([.bool x.Sound,.int .i64 x.Copies,.bool x.Conflict]:List Value))):=by
 obtain⟨_,_,rfl,rfl,⟨_,_,rfl,rfl,⟨_,_,rfl,rfl,⟨_,_,rfl,rfl,⟨_,_,rfl,rfl,rfl⟩⟩⟩⟩⟩:=h;exact rfl
theorem aNc {F:Nat->Prop}{w:World}{x:gU}:bT.rd F w (([.int .i64 x.Number]:List Value)++(((Fl.arr 64 (Fl.int .u16)).f x.Frame)++(((Fl.arr 64 (Fl.int .i64)).f x.States)++([.bool x.Sound,.int .i64 x.Copies,.bool x.Conflict]:List Value)))) x:=⟨[_],_,rfl,rfl,⟨_,_,rfl,rfl,⟨_,_,rfl,rfl,⟨[_],_,rfl,rfl,⟨[_],_,rfl,rfl,rfl⟩⟩⟩⟩⟩
structure Book where
 Map:Map
 Sources:List fQ
 Rests:List gU
 deriving DecidableEq
def rBook:Rp Book:=Rp.iso (Rp.pair rMap (Rp.pair (Rp.sl tC) (Rp.sl bT))) λx=>(x.Map,x.Sources,x.Rests)
theorem aVb {F:Nat->Prop}{w:World}{cs:List Value}{x:Book}(h:rBook.rd F w cs x): ∃v234 a v236,cs=[.int .i64 x.Map.Version,v234,a,v236]/\SlF tZ F w v234 x.Map.Params/\SlF tC F w a x.Sources/\SlF bT F w v236 x.Rests:=by
 obtain⟨_,_,rfl,⟨_,_,rfl,rfl,⟨b,rfl,c⟩⟩,⟨_,_,rfl,⟨v1,rfl,d⟩,⟨v2,rfl,e⟩⟩⟩:=h;exact⟨b,v1,v2,rfl,c,d,e⟩
structure gW where
 Number:Int
 Word:Int
 deriving DecidableEq
def rC:Rp gW:=Rp.iso (Rp.pair (Rp.int .i64) (Rp.int .i64)) λx=>(x.Number,x.Word)
def kX:Fl gW:=Fl.iso (Fl.pair (Fl.int .i64) (Fl.int .i64)) λx=>(x.Number,x.Word)
theorem dW {F:Nat->Prop}{w:World}{cs:List Value}{x:gW}(h:rC.rd F w cs x):cs=[.int .i64 x.Number,.int .i64 x.Word]:=by
 obtain⟨_,_,rfl,rfl,rfl⟩:=h;exact rfl
theorem aUw {F:Nat->Prop}{w:World}{x:gW}:rC.rd F w [.int .i64 x.Number,.int .i64 x.Word] x:=⟨[_],_,rfl,rfl,rfl⟩
structure gJ where
 out:List Int
 deriving DecidableEq
def bZ:Rp gJ:=Rp.iso (Rp.sl (Rp.int .u8)) λx=>(x.out)
theorem aBq {F:Nat->Prop}{w:World}{cs:List Value}{x:gJ}(h:bZ.rd F w cs x): ∃a,cs=[a]/\SlF (Rp.int .u8) F w a x.out:=by
 obtain⟨v0,rfl,b⟩:=h;exact⟨v0,rfl,b⟩
theorem mF {F:Nat->Prop}{w:World}{x:gJ}{v0:Value}(a:SlF (Rp.int .u8) F w v0 x.out):bZ.rd F w [v0] x:=⟨_,rfl,a⟩
structure fB where
 frame:Int
 word:Int
 bit:Int
 deriving DecidableEq
def qB:Rp fB:=Rp.iso (Rp.pair (Rp.int .i64) (Rp.pair (Rp.int .i64) (Rp.int .i64))) λx=>(x.frame,x.word,x.bit)
def dF:Fl fB:=Fl.iso (Fl.pair (Fl.int .i64) (Fl.pair (Fl.int .i64) (Fl.int .i64))) λx=>(x.frame,x.word,x.bit)
theorem aIh {F:Nat->Prop}{w:World}{cs:List Value}{x:fB}(h:qB.rd F w cs x):cs=[.int .i64 x.frame,.int .i64 x.word,.int .i64 x.bit]:=by
 obtain⟨_,_,rfl,rfl,⟨_,_,rfl,rfl,rfl⟩⟩:=h;exact rfl
theorem aMp {F:Nat->Prop}{w:World}{x:fB}:qB.rd F w [.int .i64 x.frame,.int .i64 x.word,.int .i64 x.bit] x:=⟨[_],_,rfl,rfl,⟨[_],_,rfl,rfl,rfl⟩⟩
structure fH where
 Frame:Int
 Word:Int
 Low:Int
 Bits:Int
 deriving DecidableEq
def dA:Rp fH:=Rp.iso (Rp.pair (Rp.int .i64) (Rp.pair (Rp.int .i64) (Rp.pair (Rp.int .i64) (Rp.int .i64)))) λx=>(x.Frame,x.Word,x.Low,x.Bits)
theorem nD {F:Nat->Prop}{w:World}{cs:List Value}{x:fH}(h:dA.rd F w cs x):cs=[.int .i64 x.Frame,.int .i64 x.Word,.int .i64 x.Low,.int .i64 x.Bits]:=by
 obtain⟨_,_,rfl,rfl,⟨_,_,rfl,rfl,⟨_,_,rfl,rfl,rfl⟩⟩⟩:=h;exact rfl
theorem aKs {F:Nat->Prop}{w:World}{x:fH}:dA.rd F w [.int .i64 x.Frame,.int .i64 x.Word,.int .i64 x.Low,.int .i64 x.Bits] x:=⟨[_],_,rfl,rfl,⟨[_],_,rfl,rfl,⟨[_],_,rfl,rfl,rfl⟩⟩⟩
structure Cell where
 Param:Int
 Index:Int
 Frame:Int
 Places:List fH
 deriving DecidableEq
def dQ:Rp Cell:=Rp.iso (Rp.pair (Rp.int .i64) (Rp.pair (Rp.int .i64) (Rp.pair (Rp.int .i64) (Rp.sl dA)))) λx=>(x.Param,x.Index,x.Frame,x.Places)
theorem jO {F:Nat->Prop}{w:World}{cs:List Value}{x:Cell}(h:dQ.rd F w cs x): ∃a,cs=[.int .i64 x.Param,.int .i64 x.Index,.int .i64 x.Frame,a]/\SlF dA F w a x.Places:=by
 obtain⟨_,_,rfl,rfl,⟨_,_,rfl,rfl,⟨_,_,rfl,rfl,⟨v3,rfl,b⟩⟩⟩⟩:=h;exact⟨v3,rfl,b⟩
theorem aLf {F:Nat->Prop}{w:World}{x:Cell}{v0:Value}(a:SlF dA F w v0 x.Places):dQ.rd F w [.int .i64 x.Param,.int .i64 x.Index,.int .i64 x.Frame,v0] x:=⟨[_],_,rfl,rfl,⟨[_],_,rfl,rfl,⟨[_],_,rfl,rfl,⟨_,rfl,a⟩⟩⟩⟩
structure fF where
 At:Int
 N:Int
 Mark:Int
 deriving DecidableEq
def fP:Rp fF:=Rp.iso (Rp.pair (Rp.int .i64) (Rp.pair (Rp.int .i64) (Rp.int .i64))) λx=>(x.At,x.N,x.Mark)
theorem nH {F:Nat->Prop}{w:World}{cs:List Value}{x:fF}(h:fP.rd F w cs x):cs=[.int .i64 x.At,.int .i64 x.N,.int .i64 x.Mark]:=by
 obtain⟨_,_,rfl,rfl,⟨_,_,rfl,rfl,rfl⟩⟩:=h;exact rfl
theorem pW {F:Nat->Prop}{w:World}{x:fF}:fP.rd F w [.int .i64 x.At,.int .i64 x.N,.int .i64 x.Mark] x:=⟨[_],_,rfl,rfl,⟨[_],_,rfl,rfl,rfl⟩⟩
structure Series where
 Den:Int
 Samples:List fF
 deriving DecidableEq
def rSeries:Rp Series:=Rp.iso (Rp.pair (Rp.int .i64) (Rp.sl fP)) λx=>(x.Den,x.Samples)
structure bM where
 Word:Int
 Kind:Int
 deriving DecidableEq
def tH:Rp bM:=Rp.iso (Rp.pair (Rp.int .i64) (Rp.int .i64)) λx=>(x.Word,x.Kind)
theorem aCa {F:Nat->Prop}{w:World}{x:bM}:tH.rd F w [.int .i64 x.Word,.int .i64 x.Kind] x:=⟨[_],_,rfl,rfl,rfl⟩
structure Track where
 Name:Str
 Series:Series
 Long:Int
 deriving DecidableEq
def aP:Rp Track:=Rp.iso (Rp.pair Rp.str (Rp.pair rSeries (Rp.int .i64))) λx=>(x.Name,x.Series,x.Long)
theorem aCt {F:Nat->Prop}{w:World}{cs:List Value}{x:Track}(h:aP.rd F w cs x): ∃a,cs=[.string (bs x.Name),.int .i64 x.Series.Den,a,.int .i64 x.Long]/\SlF fP F w a x.Series.Samples:=by
 obtain⟨_,_,rfl,rfl,⟨_,_,rfl,⟨_,_,rfl,rfl,⟨b,rfl,c⟩⟩,rfl⟩⟩:=h;exact⟨b,rfl,c⟩
theorem aOj {F:Nat->Prop}{w:World}{x:Track}{v0:Value}(a:SlF fP F w v0 x.Series.Samples):aP.rd F w [.string (bs x.Name),.int .i64 x.Series.Den,v0,.int .i64 x.Long] x:=⟨[_],_,rfl,rfl,⟨[_,_],_,rfl,⟨[_],_,rfl,rfl,⟨_,rfl,a⟩⟩,rfl⟩⟩
structure aLp where
 at_:Int
 e:Int
 deriving DecidableEq
structure aCl where
 name:Bool
 other:Bool
 op:Bool
 n:Bool
 frames:Bool
 least:Int
 most:Int
 deriving DecidableEq
end Go.Lf
