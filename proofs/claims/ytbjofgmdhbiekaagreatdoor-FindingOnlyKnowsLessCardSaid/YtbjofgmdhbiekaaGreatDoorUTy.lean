/- Laws that the claim stands on; no condition beyond those stated. -/
import Derived.Test.YtbjofgmdhbiekaaGreatDoorXVp
namespace Go.Lf
open Go.RowKit Go.OB
structure fA where
 kind:Int
 at_:Int
 n:Int
 text:Str
 deriving DecidableEq
def aNt:Rp fA:=Rp.iso (Rp.pair (Rp.int .i64) (Rp.pair (Rp.int .i64) (Rp.pair (Rp.int .i64) Rp.str))) λx=>(x.kind,x.at_,x.n,x.text)
structure Cond where
 Kind:Int
 Name:Str
 Other:Str
 Op:Int
 N:Int
 Frames:Int
 Kids:List Cond
def wI:Nat->Rp Cond
 |0=>Rp.bot 7
 |n+1=>Rp.iso (Rp.pair (Rp.int .i64) (Rp.pair Rp.str (Rp.pair Rp.str (Rp.pair (Rp.int .i64) (Rp.pair (Rp.int .i64) (Rp.pair (Rp.int .i64) (Rp.sl (wI n)))))))) λx=>(x.Kind,x.Name,x.Other,x.Op,x.N,x.Frames,x.Kids)
theorem aKi: ∀n,(wI n).sz=7
 |0=>rfl
 |_+1=>rfl
theorem aFg {F:Nat->Prop}{w:World}{n:Nat}{cs:List Value}{x:Cond}(h:(wI (n+1)).rd F w cs x): ∃v0,cs=[.int .i64 x.Kind,.string (bs x.Name),.string (bs x.Other),.int .i64 x.Op,.int .i64 x.N,.int .i64 x.Frames,v0]/\SlF (wI n) F w v0 x.Kids:=by
 obtain⟨_,_,rfl,rfl,⟨_,_,rfl,rfl,⟨_,_,rfl,rfl,⟨_,_,rfl,rfl,⟨_,_,rfl,rfl,⟨_,_,rfl,rfl,⟨v0,rfl,a⟩⟩⟩⟩⟩⟩⟩:=h;exact⟨v0,rfl,a⟩
theorem aJu {F:Nat->Prop}{w:World}{n:Nat}{x:Cond}{v0:Value}(a:SlF (wI n) F w v0 x.Kids):(wI (n+1)).rd F w [.int .i64 x.Kind,.string (bs x.Name),.string (bs x.Other),.int .i64 x.Op,.int .i64 x.N,.int .i64 x.Frames,v0] x:=⟨[_],_,rfl,rfl,⟨[_],_,rfl,rfl,⟨[_],_,rfl,rfl,⟨[_],_,rfl,rfl,⟨[_],_,rfl,rfl,⟨[_],_,rfl,rfl,⟨_,rfl,a⟩⟩⟩⟩⟩⟩⟩
theorem aKv: ∀n,(wI n).le (wI (n+1))
 |0=>⟨rfl,λ_ _ _ _ h=>h.elim⟩
 |n+1=>⟨rfl,λF w cs x h=>by
  obtain⟨v0,rfl,a⟩:=aFg h;exact aJu (slf_le (aKv n) a)⟩
def jU:Rp Cond:=Rp.lim wI 7 aKi
theorem aBr {F:Nat->Prop}{w:World}{cs:List Value}{x:Cond}(h:jU.rd F w cs x): ∃v0,cs=[.int .i64 x.Kind,.string (bs x.Name),.string (bs x.Other),.int .i64 x.Op,.int .i64 x.N,.int .i64 x.Frames,v0]/\SlF (jU) F w v0 x.Kids:=by
 obtain⟨n,h⟩:=h
 cases n with
 |zero=>exact h.elim
 |succ n=>
  obtain⟨v0,rfl,a⟩:=aFg h;exact⟨v0,rfl,slf_le (le_lim (h:=aKi) n) a⟩
theorem aHk {F:Nat->Prop}{w:World}{x:Cond}{v0:Value}(a:SlF (jU) F w v0 x.Kids):jU.rd F w [.int .i64 x.Kind,.string (bs x.Name),.string (bs x.Other),.int .i64 x.Op,.int .i64 x.N,.int .i64 x.Frames,v0] x:=by
 obtain⟨n,a⟩:=slf_lim aKv a;exact⟨n+1,aJu a⟩
structure aKr where
 From:Str
 To:Str
 When:Cond
def fO:Rp aKr:=Rp.iso (Rp.pair Rp.str (Rp.pair Rp.str jU)) λx=>(x.From,x.To,x.When)
structure pI where
 Name:Str
 When:Cond
def fU:Rp pI:=Rp.iso (Rp.pair Rp.str jU) λx=>(x.Name,x.When)
theorem mW {F:Nat->Prop}{w:World}{cs:List Value}{x:pI}(h:fU.rd F w cs x): ∃a,cs=[.string (bs x.Name),.int .i64 x.When.Kind,.string (bs x.When.Name),.string (bs x.When.Other),.int .i64 x.When.Op,.int .i64 x.When.N,.int .i64 x.When.Frames,a]/\SlF jU F w a x.When.Kids:=by
 obtain⟨_,_,rfl,rfl,d⟩:=h;obtain⟨b,rfl,c⟩:=aBr d;exact⟨b,rfl,c⟩
theorem aOk {F:Nat->Prop}{w:World}{x:pI}{v0:Value}(a:SlF jU F w v0 x.When.Kids):fU.rd F w [.string (bs x.Name),.int .i64 x.When.Kind,.string (bs x.When.Name),.string (bs x.When.Other),.int .i64 x.When.Op,.int .i64 x.When.N,.int .i64 x.When.Frames,v0] x:=⟨[_],_,rfl,rfl,(aHk a)⟩
structure Rules where
 Phases:List Str
 Moves:List aKr
 Rules:List pI
def rRules:Rp Rules:=Rp.iso (Rp.pair (Rp.sl Rp.str) (Rp.pair (Rp.sl fO) (Rp.sl fU))) λx=>(x.Phases,x.Moves,x.Rules)
structure gJ where
 text:Str
 at_:Int
 now:fA
 r:Rules
def dF:Rp gJ:=Rp.iso (Rp.pair Rp.str (Rp.pair (Rp.int .i64) (Rp.pair aNt rRules))) λx=>(x.text,x.at_,x.now,x.r)
theorem kZ {F:Nat->Prop}{w:World}{cs:List Value}{x:gJ}(h:dF.rd F w cs x): ∃a b c,cs=[.string (bs x.text),.int .i64 x.at_,.int .i64 x.now.kind,.int .i64 x.now.at_,.int .i64 x.now.n,.string (bs x.now.text),a,b,c]/\SlF Rp.str F w a x.r.Phases/\SlF fO F w b x.r.Moves/\SlF fU F w c x.r.Rules:=by
 obtain⟨_,_,rfl,rfl,⟨_,_,rfl,rfl,⟨_,_,rfl,⟨_,_,rfl,rfl,⟨_,_,rfl,rfl,⟨_,_,rfl,rfl,rfl⟩⟩⟩,⟨_,_,rfl,⟨d,rfl,e⟩,⟨_,_,rfl,⟨f,rfl,g⟩,⟨i,rfl,j⟩⟩⟩⟩⟩⟩:=h;exact⟨d,f,i,rfl,e,g,j⟩
theorem bD {F:Nat->Prop}{w:World}{x:gJ}{v0 v1 v2:Value}(a:SlF Rp.str F w v0 x.r.Phases)(b:SlF fO F w v1 x.r.Moves)(c:SlF fU F w v2 x.r.Rules):dF.rd F w [.string (bs x.text),.int .i64 x.at_,.int .i64 x.now.kind,.int .i64 x.now.at_,.int .i64 x.now.n,.string (bs x.now.text),v0,v1,v2] x:=⟨[_],_,rfl,rfl,⟨[_],_,rfl,rfl,⟨[_,_,_,_],_,rfl,⟨[_],_,rfl,rfl,⟨[_],_,rfl,rfl,⟨[_],_,rfl,rfl,rfl⟩⟩⟩,⟨[_],_,rfl,⟨_,rfl,a⟩,⟨[_],_,rfl,⟨_,rfl,b⟩,⟨_,rfl,c⟩⟩⟩⟩⟩⟩
structure Part where
 Frame:Int
 Word:Int
 Low:Int
 Bits:Int
 deriving DecidableEq
def qJ:Rp Part:=Rp.iso (Rp.pair (Rp.int .i64) (Rp.pair (Rp.int .i64) (Rp.pair (Rp.int .i64) (Rp.int .i64)))) λx=>(x.Frame,x.Word,x.Low,x.Bits)
theorem sD {F:Nat->Prop}{w:World}{cs:List Value}{x:Part}(h:qJ.rd F w cs x):cs=[.int .i64 x.Frame,.int .i64 x.Word,.int .i64 x.Low,.int .i64 x.Bits]:=by
 obtain⟨_,_,rfl,rfl,⟨_,_,rfl,rfl,⟨_,_,rfl,rfl,rfl⟩⟩⟩:=h;exact rfl
structure Param where
 Name:Str
 Kind:Int
 Parts:List Part
 First:Int
 Every:Int
 Times:Int
 Step:Int
 Names:List Str
 deriving DecidableEq
def sG:Rp Param:=Rp.iso (Rp.pair Rp.str (Rp.pair (Rp.int .i64) (Rp.pair (Rp.sl qJ) (Rp.pair (Rp.int .i64) (Rp.pair (Rp.int .i64) (Rp.pair (Rp.int .i64) (Rp.pair (Rp.int .i64) (Rp.sl Rp.str)))))))) λx=>(x.Name,x.Kind,x.Parts,x.First,x.Every,x.Times,x.Step,x.Names)
theorem aJ {F:Nat->Prop}{w:World}{cs:List Value}{x:Param}(h:sG.rd F w cs x): ∃a b,cs=[.string (bs x.Name),.int .i64 x.Kind,a,.int .i64 x.First,.int .i64 x.Every,.int .i64 x.Times,.int .i64 x.Step,b]/\SlF qJ F w a x.Parts/\SlF Rp.str F w b x.Names:=by
 obtain⟨_,_,rfl,rfl,⟨_,_,rfl,rfl,⟨_,_,rfl,⟨v2,rfl,c⟩,⟨_,_,rfl,rfl,⟨_,_,rfl,rfl,⟨_,_,rfl,rfl,⟨_,_,rfl,rfl,⟨d,rfl,e⟩⟩⟩⟩⟩⟩⟩⟩:=h;exact⟨v2,d,rfl,c,e⟩
theorem aJn {F:Nat->Prop}{w:World}{x:Param}{v0 v1:Value}(a:SlF qJ F w v0 x.Parts)(b:SlF Rp.str F w v1 x.Names):sG.rd F w [.string (bs x.Name),.int .i64 x.Kind,v0,.int .i64 x.First,.int .i64 x.Every,.int .i64 x.Times,.int .i64 x.Step,v1] x:=⟨[_],_,rfl,rfl,⟨[_],_,rfl,rfl,⟨[_],_,rfl,⟨_,rfl,a⟩,⟨[_],_,rfl,rfl,⟨[_],_,rfl,rfl,⟨[_],_,rfl,rfl,⟨[_],_,rfl,rfl,⟨_,rfl,b⟩⟩⟩⟩⟩⟩⟩⟩
structure Map where
 Version:Int
 Params:List Param
 deriving DecidableEq
def rMap:Rp Map:=Rp.iso (Rp.pair (Rp.int .i64) (Rp.sl sG)) λx=>(x.Version,x.Params)
structure Line where
 From:Int
 To:Int
 A:Int
 B:Int
 deriving DecidableEq
def rX:Rp Line:=Rp.iso (Rp.pair (Rp.int .i64) (Rp.pair (Rp.int .i64) (Rp.pair (Rp.int .i64) (Rp.int .i64)))) λx=>(x.From,x.To,x.A,x.B)
theorem wO {F:Nat->Prop}{w:World}{cs:List Value}{x:Line}(h:rX.rd F w cs x):cs=[.int .i64 x.From,.int .i64 x.To,.int .i64 x.A,.int .i64 x.B]:=by
 obtain⟨_,_,rfl,rfl,⟨_,_,rfl,rfl,⟨_,_,rfl,rfl,rfl⟩⟩⟩:=h;exact rfl
structure gZ where
 Den:Int
 Lines:List Line
 Low:Int
 High:Int
 deriving DecidableEq
def dX:Rp gZ:=Rp.iso (Rp.pair (Rp.int .i64) (Rp.pair (Rp.sl rX) (Rp.pair (Rp.int .i64) (Rp.int .i64)))) λx=>(x.Den,x.Lines,x.Low,x.High)
theorem tC {F:Nat->Prop}{w:World}{cs:List Value}{x:gZ}(h:dX.rd F w cs x): ∃a,cs=[.int .i64 x.Den,a,.int .i64 x.Low,.int .i64 x.High]/\SlF rX F w a x.Lines:=by
 obtain⟨_,_,rfl,rfl,⟨_,_,rfl,⟨v1,rfl,b⟩,⟨_,_,rfl,rfl,rfl⟩⟩⟩:=h;exact⟨v1,rfl,b⟩
structure fG where
 Track:Str
 Param:Str
 Meaning:List gZ
 Long:Int
 deriving DecidableEq
def qP:Rp fG:=Rp.iso (Rp.pair Rp.str (Rp.pair Rp.str (Rp.pair (Rp.sl dX) (Rp.int .i64)))) λx=>(x.Track,x.Param,x.Meaning,x.Long)
theorem qH {F:Nat->Prop}{w:World}{cs:List Value}{x:fG}(h:qP.rd F w cs x): ∃a,cs=[.string (bs x.Track),.string (bs x.Param),a,.int .i64 x.Long]/\SlF dX F w a x.Meaning:=by
 obtain⟨_,_,rfl,rfl,⟨_,_,rfl,rfl,⟨_,_,rfl,⟨v2,rfl,b⟩,rfl⟩⟩⟩:=h;exact⟨v2,rfl,b⟩
structure gU where
 Number:Int
 Frame:Arr 64 Int
 States:Arr 64 Int
 Sound:Bool
 Copies:Int
 Conflict:Bool
 deriving DecidableEq
def jB:Rp gU:=Rp.iso (Rp.pair (Rp.int .i64) (Rp.pair (Rp.fl (Fl.arr 64 (Fl.int .u16))) (Rp.pair (Rp.fl (Fl.arr 64 (Fl.int .i64))) (Rp.pair Rp.bool (Rp.pair (Rp.int .i64) Rp.bool))))) λx=>(x.Number,x.Frame,x.States,x.Sound,x.Copies,x.Conflict)
def nX:Fl gU:=Fl.iso (Fl.pair (Fl.int .i64) (Fl.pair (Fl.arr 64 (Fl.int .u16)) (Fl.pair (Fl.arr 64 (Fl.int .i64)) (Fl.pair Fl.bool (Fl.pair (Fl.int .i64) Fl.bool))))) λx=>(x.Number,x.Frame,x.States,x.Sound,x.Copies,x.Conflict)
theorem eP {F:Nat->Prop}{w:World}{cs:List Value}{x:gU}(h:jB.rd F w cs x):cs=([.int .i64 x.Number]:List Value)++(((Fl.arr 64 (Fl.int .u16)).f x.Frame)++(((Fl.arr 64 (Fl.int .i64)).f x.States)++([.bool x.Sound,.int .i64 x.Copies,.bool x.Conflict]:List Value))):=by
 obtain⟨_,_,rfl,rfl,⟨_,_,rfl,rfl,⟨_,_,rfl,rfl,⟨_,_,rfl,rfl,⟨_,_,rfl,rfl,rfl⟩⟩⟩⟩⟩:=h;exact rfl
theorem rRestT_mk {F:Nat->Prop}{w:World}{x:gU}:jB.rd F w (([.int .i64 x.Number]:List Value)++(((Fl.arr 64 (Fl.int .u16)).f x.Frame)++(((Fl.arr 64 (Fl.int .i64)).f x.States)++([.bool x.Sound,.int .i64 x.Copies,.bool x.Conflict]:List Value)))) x:=⟨[_],_,rfl,rfl,⟨_,_,rfl,rfl,⟨_,_,rfl,rfl,⟨[_],_,rfl,rfl,⟨[_],_,rfl,rfl,rfl⟩⟩⟩⟩⟩
structure Book where
 Map:Map
 Sources:List fG
 Rests:List gU
 deriving DecidableEq
def rBook:Rp Book:=Rp.iso (Rp.pair rMap (Rp.pair (Rp.sl qP) (Rp.sl jB))) λx=>(x.Map,x.Sources,x.Rests)
theorem aQy {F:Nat->Prop}{w:World}{cs:List Value}{x:Book}(h:rBook.rd F w cs x): ∃a b c,cs=[.int .i64 x.Map.Version,a,b,c]/\SlF sG F w a x.Map.Params/\SlF qP F w b x.Sources/\SlF jB F w c x.Rests:=by
 obtain⟨_,_,rfl,⟨_,_,rfl,rfl,⟨d,rfl,e⟩⟩,⟨_,_,rfl,⟨v1,rfl,f⟩,⟨v2,rfl,g⟩⟩⟩:=h;exact⟨d,v1,v2,rfl,e,f,g⟩
structure fE where
 Frame:Int
 Word:Int
 Low:Int
 Bits:Int
 deriving DecidableEq
def kN:Rp fE:=Rp.iso (Rp.pair (Rp.int .i64) (Rp.pair (Rp.int .i64) (Rp.pair (Rp.int .i64) (Rp.int .i64)))) λx=>(x.Frame,x.Word,x.Low,x.Bits)
theorem aCr {F:Nat->Prop}{w:World}{cs:List Value}{x:fE}(h:kN.rd F w cs x):cs=[.int .i64 x.Frame,.int .i64 x.Word,.int .i64 x.Low,.int .i64 x.Bits]:=by
 obtain⟨_,_,rfl,rfl,⟨_,_,rfl,rfl,⟨_,_,rfl,rfl,rfl⟩⟩⟩:=h;exact rfl
theorem aSt {F:Nat->Prop}{w:World}{x:fE}:kN.rd F w [.int .i64 x.Frame,.int .i64 x.Word,.int .i64 x.Low,.int .i64 x.Bits] x:=⟨[_],_,rfl,rfl,⟨[_],_,rfl,rfl,⟨[_],_,rfl,rfl,rfl⟩⟩⟩
structure Cell where
 Param:Int
 Index:Int
 Frame:Int
 Places:List fE
 deriving DecidableEq
def pR:Rp Cell:=Rp.iso (Rp.pair (Rp.int .i64) (Rp.pair (Rp.int .i64) (Rp.pair (Rp.int .i64) (Rp.sl kN)))) λx=>(x.Param,x.Index,x.Frame,x.Places)
theorem vM {F:Nat->Prop}{w:World}{cs:List Value}{x:Cell}(h:pR.rd F w cs x): ∃a,cs=[.int .i64 x.Param,.int .i64 x.Index,.int .i64 x.Frame,a]/\SlF kN F w a x.Places:=by
 obtain⟨_,_,rfl,rfl,⟨_,_,rfl,rfl,⟨_,_,rfl,rfl,⟨v3,rfl,b⟩⟩⟩⟩:=h;exact⟨v3,rfl,b⟩
theorem rCell_mk {F:Nat->Prop}{w:World}{x:Cell}{v0:Value}(a:SlF kN F w v0 x.Places):pR.rd F w [.int .i64 x.Param,.int .i64 x.Index,.int .i64 x.Frame,v0] x:=⟨[_],_,rfl,rfl,⟨[_],_,rfl,rfl,⟨[_],_,rfl,rfl,⟨_,rfl,a⟩⟩⟩⟩
structure aZ where
 Word:Int
 Kind:Int
 deriving DecidableEq
structure fC where
 At:Int
 N:Int
 Mark:Int
 deriving DecidableEq
def fM:Rp fC:=Rp.iso (Rp.pair (Rp.int .i64) (Rp.pair (Rp.int .i64) (Rp.int .i64))) λx=>(x.At,x.N,x.Mark)
theorem bP {F:Nat->Prop}{w:World}{cs:List Value}{x:fC}(h:fM.rd F w cs x):cs=[.int .i64 x.At,.int .i64 x.N,.int .i64 x.Mark]:=by
 obtain⟨_,_,rfl,rfl,⟨_,_,rfl,rfl,rfl⟩⟩:=h;exact rfl
theorem vV {F:Nat->Prop}{w:World}{x:fC}:fM.rd F w [.int .i64 x.At,.int .i64 x.N,.int .i64 x.Mark] x:=⟨[_],_,rfl,rfl,⟨[_],_,rfl,rfl,rfl⟩⟩
structure Series where
 Den:Int
 Samples:List fC
 deriving DecidableEq
def rSeries:Rp Series:=Rp.iso (Rp.pair (Rp.int .i64) (Rp.sl fM)) λx=>(x.Den,x.Samples)
structure gW where
 Number:Int
 Word:Int
 deriving DecidableEq
def nT:Rp gW:=Rp.iso (Rp.pair (Rp.int .i64) (Rp.int .i64)) λx=>(x.Number,x.Word)
def qQ:Fl gW:=Fl.iso (Fl.pair (Fl.int .i64) (Fl.int .i64)) λx=>(x.Number,x.Word)
theorem aCw {F:Nat->Prop}{w:World}{cs:List Value}{x:gW}(h:nT.rd F w cs x):cs=[.int .i64 x.Number,.int .i64 x.Word]:=by
 obtain⟨_,_,rfl,rfl,rfl⟩:=h;exact rfl
structure Track where
 Name:Str
 Series:Series
 Long:Int
 deriving DecidableEq
def aF:Rp Track:=Rp.iso (Rp.pair Rp.str (Rp.pair rSeries (Rp.int .i64))) λx=>(x.Name,x.Series,x.Long)
theorem jK {F:Nat->Prop}{w:World}{cs:List Value}{x:Track}(h:aF.rd F w cs x): ∃a,cs=[.string (bs x.Name),.int .i64 x.Series.Den,a,.int .i64 x.Long]/\SlF fM F w a x.Series.Samples:=by
 obtain⟨_,_,rfl,rfl,⟨_,_,rfl,⟨_,_,rfl,rfl,⟨b,rfl,c⟩⟩,rfl⟩⟩:=h;exact⟨b,rfl,c⟩
theorem rTrack_mk {F:Nat->Prop}{w:World}{x:Track}{v0:Value}(a:SlF fM F w v0 x.Series.Samples):aF.rd F w [.string (bs x.Name),.int .i64 x.Series.Den,v0,.int .i64 x.Long] x:=⟨[_],_,rfl,rfl,⟨[_,_],_,rfl,⟨[_],_,rfl,rfl,⟨_,rfl,a⟩⟩,rfl⟩⟩
structure gX where
 frame:Int
 word:Int
 bit:Int
 deriving DecidableEq
def mM:Rp gX:=Rp.iso (Rp.pair (Rp.int .i64) (Rp.pair (Rp.int .i64) (Rp.int .i64))) λx=>(x.frame,x.word,x.bit)
def dB:Fl gX:=Fl.iso (Fl.pair (Fl.int .i64) (Fl.pair (Fl.int .i64) (Fl.int .i64))) λx=>(x.frame,x.word,x.bit)
theorem aFl {F:Nat->Prop}{w:World}{cs:List Value}{x:gX}(h:mM.rd F w cs x):cs=[.int .i64 x.frame,.int .i64 x.word,.int .i64 x.bit]:=by
 obtain⟨_,_,rfl,rfl,⟨_,_,rfl,rfl,rfl⟩⟩:=h;exact rfl
theorem aJa {F:Nat->Prop}{w:World}{x:gX}:mM.rd F w [.int .i64 x.frame,.int .i64 x.word,.int .i64 x.bit] x:=⟨[_],_,rfl,rfl,⟨[_],_,rfl,rfl,rfl⟩⟩
structure aHo where
 at_:Int
 e:Int
 deriving DecidableEq
structure aAa where
 name:Bool
 other:Bool
 op:Bool
 n:Bool
 frames:Bool
 least:Int
 most:Int
 deriving DecidableEq
structure jI where
 N:Int
 Known:Bool
 deriving DecidableEq
def uI:Rp jI:=Rp.iso (Rp.pair (Rp.int .i64) Rp.bool) λx=>(x.N,x.Known)
def aUw:Fl jI:=Fl.iso (Fl.pair (Fl.int .i64) Fl.bool) λx=>(x.N,x.Known)
theorem aAd {F:Nat->Prop}{w:World}{cs:List Value}{x:jI}(h:uI.rd F w cs x):cs=[.int .i64 x.N,.bool x.Known]:=by
 obtain⟨_,_,rfl,rfl,rfl⟩:=h;exact rfl
theorem rToldT_mk {F:Nat->Prop}{w:World}{x:jI}:uI.rd F w [.int .i64 x.N,.bool x.Known] x:=⟨[_],_,rfl,rfl,rfl⟩
end Go.Lf
