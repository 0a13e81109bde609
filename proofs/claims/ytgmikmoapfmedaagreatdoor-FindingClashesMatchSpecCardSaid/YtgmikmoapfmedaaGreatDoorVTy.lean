/- The types of data: how they lie in memory. -/
import Derived.Test.YtgmikmoapfmedaaGreatDoorXVj
namespace Go.Lf
open Go.RowKit Go.OB
structure gU where
  kind:Int
  at_:Int
  n:Int
  text:Str
  deriving DecidableEq
def aCd:Rp gU:=Rp.iso (Rp.pair (Rp.int .i64) (Rp.pair (Rp.int .i64) (Rp.pair (Rp.int .i64) Rp.str))) fun x=>(x.kind,x.at_,x.n,x.text)
structure Cond where
  Kind:Int
  Name:Str
  Other:Str
  Op:Int
  N:Int
  Frames:Int
  Kids:List Cond
def mD:Nat→Rp Cond
  | 0=>Rp.bot 7
  | n+1=>Rp.iso (Rp.pair (Rp.int .i64) (Rp.pair Rp.str (Rp.pair Rp.str (Rp.pair (Rp.int .i64) (Rp.pair (Rp.int .i64) (Rp.pair (Rp.int .i64) (Rp.sl (mD n)))))))) fun x=>(x.Kind,x.Name,x.Other,x.Op,x.N,x.Frames,x.Kids)
theorem wQ: ∀n,(mD n).sz=7
  | 0=>rfl
  | _+1=>rfl
theorem sH {F:Nat→Prop}{w:World}{n:Nat}{cs:List Value}{x:Cond}(h:(mD (n+1)).rd F w cs x): ∃v0,cs= [.int .i64 x.Kind,.string (bs x.Name),.string (bs x.Other),.int .i64 x.Op,.int .i64 x.N,.int .i64 x.Frames,v0]∧SlF (mD n) F w v0 x.Kids:=by
  obtain ⟨_,_,rfl,rfl,⟨_,_,rfl,rfl,⟨_,_,rfl,rfl,⟨_,_,rfl,rfl,⟨_,_,rfl,rfl,⟨_,_,rfl,rfl,⟨v0,rfl,h0⟩⟩⟩⟩⟩⟩⟩:=h
  exact ⟨v0,rfl,h0⟩
theorem vX {F:Nat→Prop}{w:World}{n:Nat}{x:Cond}{v0:Value}(h0:SlF (mD n) F w v0 x.Kids):(mD (n+1)).rd F w [.int .i64 x.Kind,.string (bs x.Name),.string (bs x.Other),.int .i64 x.Op,.int .i64 x.N,.int .i64 x.Frames,v0] x:=⟨[_],_,rfl,rfl,⟨[_],_,rfl,rfl,⟨[_],_,rfl,rfl,⟨[_],_,rfl,rfl,⟨[_],_,rfl,rfl,⟨[_],_,rfl,rfl,⟨_,rfl,h0⟩⟩⟩⟩⟩⟩⟩
theorem wC: ∀n,(mD n).le (mD (n+1))
  | 0=>⟨rfl,fun _ _ _ _ h=>h.elim⟩
  | n+1=>⟨rfl,fun F w cs x h=>by
    obtain ⟨v0,rfl,h0⟩:=sH h
    exact vX (slf_le (wC n) h0)⟩
def fM:Rp Cond:=Rp.lim mD 7 wQ
theorem pR {F:Nat→Prop}{w:World}{cs:List Value}{x:Cond}(h:fM.rd F w cs x): ∃v0,cs= [.int .i64 x.Kind,.string (bs x.Name),.string (bs x.Other),.int .i64 x.Op,.int .i64 x.N,.int .i64 x.Frames,v0]∧SlF (fM) F w v0 x.Kids:=by
  obtain ⟨n,h⟩:=h
  cases n with
  | zero=>exact h.elim
  | succ n=>
    obtain ⟨v0,rfl,h0⟩:=sH h
    exact ⟨v0,rfl,slf_le (le_lim (h:=wQ) n) h0⟩
theorem vC {F:Nat→Prop}{w:World}{x:Cond}{v0:Value}(h0:SlF (fM) F w v0 x.Kids):fM.rd F w [.int .i64 x.Kind,.string (bs x.Name),.string (bs x.Other),.int .i64 x.Op,.int .i64 x.N,.int .i64 x.Frames,v0] x:=by
  obtain ⟨n,h0⟩:=slf_lim wC h0
  exact ⟨n+1,vX h0⟩
structure uS where
  From:Str
  To:Str
  When:Cond
def gX:Rp uS:=Rp.iso (Rp.pair Rp.str (Rp.pair Rp.str fM)) fun x=>(x.From,x.To,x.When)
structure aN where
  Name:Str
  When:Cond
def fB:Rp aN:=Rp.iso (Rp.pair Rp.str fM) fun x=>(x.Name,x.When)
theorem aC {F:Nat→Prop}{w:World}{cs:List Value}{x:aN}(h:fB.rd F w cs x): ∃v5896,cs= [.string (bs x.Name),.int .i64 x.When.Kind,.string (bs x.When.Name),.string (bs x.When.Other),.int .i64 x.When.Op,.int .i64 x.When.N,.int .i64 x.When.Frames,v5896]∧SlF fM F w v5896 x.When.Kids:=by
  obtain ⟨_,_,rfl,rfl,r1⟩:=h
  obtain ⟨v1_6,rfl,h1_6⟩:=pR r1
  exact ⟨v1_6,rfl,h1_6⟩
theorem aBf {F:Nat→Prop}{w:World}{x:aN}{v0:Value}(h0:SlF fM F w v0 x.When.Kids):fB.rd F w [.string (bs x.Name),.int .i64 x.When.Kind,.string (bs x.When.Name),.string (bs x.When.Other),.int .i64 x.When.Op,.int .i64 x.When.N,.int .i64 x.When.Frames,v0] x:=⟨[_],_,rfl,rfl,(vC h0)⟩
structure Rules where
  Phases:List Str
  Moves:List uS
  Rules:List aN
def rRules:Rp Rules:=Rp.iso (Rp.pair (Rp.sl Rp.str) (Rp.pair (Rp.sl gX) (Rp.sl fB))) fun x=>(x.Phases,x.Moves,x.Rules)
structure gB where
  text:Str
  at_:Int
  now:gU
  r:Rules
def eH:Rp gB:=Rp.iso (Rp.pair Rp.str (Rp.pair (Rp.int .i64) (Rp.pair aCd rRules))) fun x=>(x.text,x.at_,x.now,x.r)
theorem bG {F:Nat→Prop}{w:World}{cs:List Value}{x:gB}(h:eH.rd F w cs x): ∃v5900 v5901 v5902,cs= [.string (bs x.text),.int .i64 x.at_,.int .i64 x.now.kind,.int .i64 x.now.at_,.int .i64 x.now.n,.string (bs x.now.text),v5900,v5901,v5902]∧SlF Rp.str F w v5900 x.r.Phases∧SlF gX F w v5901 x.r.Moves∧SlF fB F w v5902 x.r.Rules:=by
  obtain ⟨_,_,rfl,rfl,⟨_,_,rfl,rfl,⟨_,_,rfl,⟨_,_,rfl,rfl,⟨_,_,rfl,rfl,⟨_,_,rfl,rfl,rfl⟩⟩⟩,⟨_,_,rfl,⟨v3_0,rfl,h3_0⟩,⟨_,_,rfl,⟨v3_1,rfl,h3_1⟩,⟨v3_2,rfl,h3_2⟩⟩⟩⟩⟩⟩:=h
  exact ⟨v3_0,v3_1,v3_2,rfl,h3_0,h3_1,h3_2⟩
theorem dG {F:Nat→Prop}{w:World}{x:gB}{v0:Value}{v1:Value}{v2:Value}(h0:SlF Rp.str F w v0 x.r.Phases)(h1:SlF gX F w v1 x.r.Moves)(h2:SlF fB F w v2 x.r.Rules):eH.rd F w [.string (bs x.text),.int .i64 x.at_,.int .i64 x.now.kind,.int .i64 x.now.at_,.int .i64 x.now.n,.string (bs x.now.text),v0,v1,v2] x:=⟨[_],_,rfl,rfl,⟨[_],_,rfl,rfl,⟨[_,_,_,_],_,rfl,⟨[_],_,rfl,rfl,⟨[_],_,rfl,rfl,⟨[_],_,rfl,rfl,rfl⟩⟩⟩,⟨[_],_,rfl,⟨_,rfl,h0⟩,⟨[_],_,rfl,⟨_,rfl,h1⟩,⟨_,rfl,h2⟩⟩⟩⟩⟩⟩
structure fF where
  At:Int
  N:Int
  Mark:Int
  deriving DecidableEq
def gY:Rp fF:=Rp.iso (Rp.pair (Rp.int .i64) (Rp.pair (Rp.int .i64) (Rp.int .i64))) fun x=>(x.At,x.N,x.Mark)
theorem eG {F:Nat→Prop}{w:World}{cs:List Value}{x:fF}(h:gY.rd F w cs x):cs= [.int .i64 x.At,.int .i64 x.N,.int .i64 x.Mark]:=by
  obtain ⟨_,_,rfl,rfl,⟨_,_,rfl,rfl,rfl⟩⟩:=h
  exact rfl
structure Series where
  Den:Int
  Samples:List fF
  deriving DecidableEq
def aDy:Rp Series:=Rp.iso (Rp.pair (Rp.int .i64) (Rp.sl gY)) fun x=>(x.Den,x.Samples)
structure gW where
  Name:Str
  Series:Series
  Long:Int
  deriving DecidableEq
def fH:Rp gW:=Rp.iso (Rp.pair Rp.str (Rp.pair aDy (Rp.int .i64))) fun x=>(x.Name,x.Series,x.Long)
theorem fZ {F:Nat→Prop}{w:World}{cs:List Value}{x:gW}(h:fH.rd F w cs x): ∃v5904,cs= [.string (bs x.Name),.int .i64 x.Series.Den,v5904,.int .i64 x.Long]∧SlF gY F w v5904 x.Series.Samples:=by
  obtain ⟨_,_,rfl,rfl,⟨_,_,rfl,⟨_,_,rfl,rfl,⟨v1_1,rfl,h1_1⟩⟩,rfl⟩⟩:=h
  exact ⟨v1_1,rfl,h1_1⟩
theorem wH {F:Nat→Prop}{w:World}{x:gW}{v0:Value}(h0:SlF gY F w v0 x.Series.Samples):fH.rd F w [.string (bs x.Name),.int .i64 x.Series.Den,v0,.int .i64 x.Long] x:=⟨[_],_,rfl,rfl,⟨[_,_],_,rfl,⟨[_],_,rfl,rfl,⟨_,rfl,h0⟩⟩,rfl⟩⟩
structure Twins where
  A:Str
  B:Str
  Most:Int
  deriving DecidableEq
def dD:Rp Twins:=Rp.iso (Rp.pair Rp.str (Rp.pair Rp.str (Rp.int .i64))) fun x=>(x.A,x.B,x.Most)
theorem dZ {F:Nat→Prop}{w:World}{cs:List Value}{x:Twins}(h:dD.rd F w cs x):cs= [.string (bs x.A),.string (bs x.B),.int .i64 x.Most]:=by
  obtain ⟨_,_,rfl,rfl,⟨_,_,rfl,rfl,rfl⟩⟩:=h
  exact rfl
structure gK where
  out:List Int
  deriving DecidableEq
def dS:Rp gK:=Rp.iso (Rp.sl (Rp.int .u8)) fun x=>(x.out)
theorem jU {F:Nat→Prop}{w:World}{cs:List Value}{x:gK}(h:dS.rd F w cs x): ∃v5905,cs= [v5905]∧SlF (Rp.int .u8) F w v5905 x.out:=by
  obtain ⟨v0,rfl,h0⟩:=h
  exact ⟨v0,rfl,h0⟩
theorem aX {F:Nat→Prop}{w:World}{x:gK}{v0:Value}(h0:SlF (Rp.int .u8) F w v0 x.out):dS.rd F w [v0] x:=⟨_,rfl,h0⟩
structure fE where
  Twins:Int
  From:Int
  To:Int
  deriving DecidableEq
def fV:Rp fE:=Rp.iso (Rp.pair (Rp.int .i64) (Rp.pair (Rp.int .i64) (Rp.int .i64))) fun x=>(x.Twins,x.From,x.To)
theorem aZ {F:Nat→Prop}{w:World}{cs:List Value}{x:fE}(h:fV.rd F w cs x):cs= [.int .i64 x.Twins,.int .i64 x.From,.int .i64 x.To]:=by
  obtain ⟨_,_,rfl,rfl,⟨_,_,rfl,rfl,rfl⟩⟩:=h
  exact rfl
theorem nP {F:Nat→Prop}{w:World}{x:fE}:fV.rd F w [.int .i64 x.Twins,.int .i64 x.From,.int .i64 x.To] x:=⟨[_],_,rfl,rfl,⟨[_],_,rfl,rfl,rfl⟩⟩
structure aH where
  N:Int
  Known:Bool
  deriving DecidableEq
def nJ:Rp aH:=Rp.iso (Rp.pair (Rp.int .i64) Rp.bool) fun x=>(x.N,x.Known)
theorem rY {F:Nat→Prop}{w:World}{cs:List Value}{x:aH}(h:nJ.rd F w cs x):cs= [.int .i64 x.N,.bool x.Known]:=by
  obtain ⟨_,_,rfl,rfl,rfl⟩:=h
  exact rfl
theorem rToldT_mk {F:Nat→Prop}{w:World}{x:aH}:nJ.rd F w [.int .i64 x.N,.bool x.Known] x:=⟨[_],_,rfl,rfl,rfl⟩
structure fC where
  neg:Bool
  high:Int
  low:Int
  deriving DecidableEq
structure uF where
  at_:Int
  e:Int
  deriving DecidableEq
structure mX where
  name:Bool
  other:Bool
  op:Bool
  n:Bool
  frames:Bool
  least:Int
  most:Int
  deriving DecidableEq
end Go.Lf
