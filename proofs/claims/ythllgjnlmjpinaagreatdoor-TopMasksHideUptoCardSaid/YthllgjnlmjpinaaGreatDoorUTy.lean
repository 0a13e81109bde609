/- The types of data: how they lie in memory. -/
import Derived.Test.YthllgjnlmjpinaaGreatDoorFrTy
namespace Go.Lf
open Go.RowKit Go.OB
structure gZ where
  At:Int
  N:Int
  Mark:Int
  deriving DecidableEq
def fD:Rp gZ:=Rp.iso (Rp.pair (Rp.int .i64) (Rp.pair (Rp.int .i64) (Rp.int .i64))) fun x=>(x.At,x.N,x.Mark)
theorem wK {F:Nat→Prop}{w:World}{cs:List Value}{x:gZ}(h:fD.rd F w cs x):cs= [.int .i64 x.At,.int .i64 x.N,.int .i64 x.Mark]:=by
 obtain ⟨_,_,rfl,rfl,⟨_,_,rfl,rfl,rfl⟩⟩:=h;exact rfl
theorem aFz {F:Nat→Prop}{w:World}{x:gZ}:fD.rd F w [.int .i64 x.At,.int .i64 x.N,.int .i64 x.Mark] x:=⟨[_],_,rfl,rfl,⟨[_],_,rfl,rfl,rfl⟩⟩
structure Series where
  Den:Int
  Samples:List gZ
  deriving DecidableEq
def aSn:Rp Series:=Rp.iso (Rp.pair (Rp.int .i64) (Rp.sl fD)) fun x=>(x.Den,x.Samples)
structure Track where
  Name:Str
  Series:Series
  Long:Int
  deriving DecidableEq
def fA:Rp Track:=Rp.iso (Rp.pair Rp.str (Rp.pair aSn (Rp.int .i64))) fun x=>(x.Name,x.Series,x.Long)
theorem wJ {F:Nat→Prop}{w:World}{cs:List Value}{x:Track}(h:fA.rd F w cs x): ∃v1380,cs= [.string (bs x.Name),.int .i64 x.Series.Den,v1380,.int .i64 x.Long]∧SlF fD F w v1380 x.Series.Samples:=by
 obtain ⟨_,_,rfl,rfl,⟨_,_,rfl,⟨_,_,rfl,rfl,⟨v1_1,rfl,h1_1⟩⟩,rfl⟩⟩:=h;exact ⟨v1_1,rfl,h1_1⟩
theorem tX {F:Nat→Prop}{w:World}{x:Track}{v0:Value}(h0:SlF fD F w v0 x.Series.Samples):fA.rd F w [.string (bs x.Name),.int .i64 x.Series.Den,v0,.int .i64 x.Long] x:=⟨[_],_,rfl,rfl,⟨[_,_],_,rfl,⟨[_],_,rfl,rfl,⟨_,rfl,h0⟩⟩,rfl⟩⟩
structure Flight where
  Tail:Str
  Route:Str
  Day:Int
  From:Int
  To:Int
  Tracks:List Track
  deriving DecidableEq
def fP:Rp Flight:=Rp.iso (Rp.pair Rp.str (Rp.pair Rp.str (Rp.pair (Rp.int .i64) (Rp.pair (Rp.int .i64) (Rp.pair (Rp.int .i64) (Rp.sl fA)))))) fun x=>(x.Tail,x.Route,x.Day,x.From,x.To,x.Tracks)
theorem kZ {F:Nat→Prop}{w:World}{cs:List Value}{x:Flight}(h:fP.rd F w cs x): ∃v1381,cs= [.string (bs x.Tail),.string (bs x.Route),.int .i64 x.Day,.int .i64 x.From,.int .i64 x.To,v1381]∧SlF fA F w v1381 x.Tracks:=by
 obtain ⟨_,_,rfl,rfl,⟨_,_,rfl,rfl,⟨_,_,rfl,rfl,⟨_,_,rfl,rfl,⟨_,_,rfl,rfl,⟨v5,rfl,h5⟩⟩⟩⟩⟩⟩:=h;exact ⟨v5,rfl,h5⟩
theorem aRo {F:Nat→Prop}{w:World}{x:Flight}{v0:Value}(h0:SlF fA F w v0 x.Tracks):fP.rd F w [.string (bs x.Tail),.string (bs x.Route),.int .i64 x.Day,.int .i64 x.From,.int .i64 x.To,v0] x:=⟨[_],_,rfl,rfl,⟨[_],_,rfl,rfl,⟨[_],_,rfl,rfl,⟨[_],_,rfl,rfl,⟨[_],_,rfl,rfl,⟨_,rfl,h0⟩⟩⟩⟩⟩⟩
structure Cond where
  Kind:Int
  Name:Str
  Other:Str
  Op:Int
  N:Int
  Frames:Int
  Kids:List Cond
def rW:Nat→Rp Cond
  | 0=>Rp.bot 7
  | n+1=>Rp.iso (Rp.pair (Rp.int .i64) (Rp.pair Rp.str (Rp.pair Rp.str (Rp.pair (Rp.int .i64) (Rp.pair (Rp.int .i64) (Rp.pair (Rp.int .i64) (Rp.sl (rW n)))))))) fun x=>(x.Kind,x.Name,x.Other,x.Op,x.N,x.Frames,x.Kids)
theorem aKe: ∀n,(rW n).sz=7
  | 0=>rfl
  | _+1=>rfl
theorem aEm {F:Nat→Prop}{w:World}{n:Nat}{cs:List Value}{x:Cond}(h:(rW (n+1)).rd F w cs x): ∃v0,cs= [.int .i64 x.Kind,.string (bs x.Name),.string (bs x.Other),.int .i64 x.Op,.int .i64 x.N,.int .i64 x.Frames,v0]∧SlF (rW n) F w v0 x.Kids:=by
 obtain ⟨_,_,rfl,rfl,⟨_,_,rfl,rfl,⟨_,_,rfl,rfl,⟨_,_,rfl,rfl,⟨_,_,rfl,rfl,⟨_,_,rfl,rfl,⟨v0,rfl,h0⟩⟩⟩⟩⟩⟩⟩:=h;exact ⟨v0,rfl,h0⟩
theorem rCondN_mk {F:Nat→Prop}{w:World}{n:Nat}{x:Cond}{v0:Value}(h0:SlF (rW n) F w v0 x.Kids):(rW (n+1)).rd F w [.int .i64 x.Kind,.string (bs x.Name),.string (bs x.Other),.int .i64 x.Op,.int .i64 x.N,.int .i64 x.Frames,v0] x:=⟨[_],_,rfl,rfl,⟨[_],_,rfl,rfl,⟨[_],_,rfl,rfl,⟨[_],_,rfl,rfl,⟨[_],_,rfl,rfl,⟨[_],_,rfl,rfl,⟨_,rfl,h0⟩⟩⟩⟩⟩⟩⟩
theorem aJp: ∀n,(rW n).le (rW (n+1))
  | 0=>⟨rfl,fun _ _ _ _ h=>h.elim⟩
  | n+1=>⟨rfl,fun F w cs x h=>by
    obtain ⟨v0,rfl,h0⟩:=aEm h
    exact rCondN_mk (slf_le (aJp n) h0)⟩
def eQ:Rp Cond:=Rp.lim rW 7 aKe
theorem kS {F:Nat→Prop}{w:World}{cs:List Value}{x:Cond}(h:eQ.rd F w cs x): ∃v0,cs= [.int .i64 x.Kind,.string (bs x.Name),.string (bs x.Other),.int .i64 x.Op,.int .i64 x.N,.int .i64 x.Frames,v0]∧SlF (eQ) F w v0 x.Kids:=by
  obtain ⟨n,h⟩:=h
  cases n with
  | zero=>exact h.elim
  | succ n=>
    obtain ⟨v0,rfl,h0⟩:=aEm h
    exact ⟨v0,rfl,slf_le (le_lim (h:=aKe) n) h0⟩
structure pK where
  From:Str
  To:Str
  When:Cond
def eF:Rp pK:=Rp.iso (Rp.pair Rp.str (Rp.pair Rp.str eQ)) fun x=>(x.From,x.To,x.When)
theorem vN {F:Nat→Prop}{w:World}{cs:List Value}{x:pK}(h:eF.rd F w cs x): ∃v1382,cs= [.string (bs x.From),.string (bs x.To),.int .i64 x.When.Kind,.string (bs x.When.Name),.string (bs x.When.Other),.int .i64 x.When.Op,.int .i64 x.When.N,.int .i64 x.When.Frames,v1382]∧SlF eQ F w v1382 x.When.Kids:=by
 obtain ⟨_,_,rfl,rfl,⟨_,_,rfl,rfl,r2⟩⟩:=h;obtain ⟨v2_6,rfl,h2_6⟩:=kS r2;exact ⟨v2_6,rfl,h2_6⟩
structure kE where
  Name:Str
  When:Cond
def eU:Rp kE:=Rp.iso (Rp.pair Rp.str eQ) fun x=>(x.Name,x.When)
theorem qN {F:Nat→Prop}{w:World}{cs:List Value}{x:kE}(h:eU.rd F w cs x): ∃v1383,cs= [.string (bs x.Name),.int .i64 x.When.Kind,.string (bs x.When.Name),.string (bs x.When.Other),.int .i64 x.When.Op,.int .i64 x.When.N,.int .i64 x.When.Frames,v1383]∧SlF eQ F w v1383 x.When.Kids:=by
 obtain ⟨_,_,rfl,rfl,r1⟩:=h;obtain ⟨v1_6,rfl,h1_6⟩:=kS r1;exact ⟨v1_6,rfl,h1_6⟩
structure Rules where
  Phases:List Str
  Moves:List pK
  Rules:List kE
def rRules:Rp Rules:=Rp.iso (Rp.pair (Rp.sl Rp.str) (Rp.pair (Rp.sl eF) (Rp.sl eU))) fun x=>(x.Phases,x.Moves,x.Rules)
theorem aNj {F:Nat→Prop}{w:World}{cs:List Value}{x:Rules}(h:rRules.rd F w cs x): ∃v1384 v1385 v1386,cs= [v1384,v1385,v1386]∧SlF Rp.str F w v1384 x.Phases∧SlF eF F w v1385 x.Moves∧SlF eU F w v1386 x.Rules:=by
 obtain ⟨_,_,rfl,⟨v0,rfl,h0⟩,⟨_,_,rfl,⟨v1,rfl,h1⟩,⟨v2,rfl,h2⟩⟩⟩:=h;exact ⟨v0,v1,v2,rfl,h0,h1,h2⟩
structure eY where
  Track:Str
  N:Int
  deriving DecidableEq
def fH:Rp eY:=Rp.iso (Rp.pair Rp.str (Rp.int .i64)) fun x=>(x.Track,x.N)
theorem jR {F:Nat→Prop}{w:World}{cs:List Value}{x:eY}(h:fH.rd F w cs x):cs= [.string (bs x.Track),.int .i64 x.N]:=by
 obtain ⟨_,_,rfl,rfl,rfl⟩:=h;exact rfl
structure Mask where
  Tails:Bool
  Days:Int
  Hide:List Str
  Grains:List eY
  Least:Int
  deriving DecidableEq
def rMask:Rp Mask:=Rp.iso (Rp.pair Rp.bool (Rp.pair (Rp.int .i64) (Rp.pair (Rp.sl Rp.str) (Rp.pair (Rp.sl fH) (Rp.int .i64))))) fun x=>(x.Tails,x.Days,x.Hide,x.Grains,x.Least)
theorem aRs {F:Nat→Prop}{w:World}{cs:List Value}{x:Mask}(h:rMask.rd F w cs x): ∃v1387 v1388,cs= [.bool x.Tails,.int .i64 x.Days,v1387,v1388,.int .i64 x.Least]∧SlF Rp.str F w v1387 x.Hide∧SlF fH F w v1388 x.Grains:=by
 obtain ⟨_,_,rfl,rfl,⟨_,_,rfl,rfl,⟨_,_,rfl,⟨v2,rfl,h2⟩,⟨_,_,rfl,⟨v3,rfl,h3⟩,rfl⟩⟩⟩⟩:=h;exact ⟨v2,v3,rfl,h2,h3⟩
structure dV where
  name:Bool
  other:Bool
  op:Bool
  n:Bool
  frames:Bool
  least:Int
  most:Int
  deriving DecidableEq
structure eX where
  tracks:List (Str×Int)
  dens:List Int
  phases:List Str
  rules:List (Str×Int)
structure gQ where
  told:List dB
  possible:List Bool
  rules:List Int
  deriving DecidableEq
structure gJ where
  out:List Int
  deriving DecidableEq
def aK:Rp gJ:=Rp.iso (Rp.sl (Rp.int .u8)) fun x=>(x.out)
theorem uC {F:Nat→Prop}{w:World}{cs:List Value}{x:gJ}(h:aK.rd F w cs x): ∃v1392,cs= [v1392]∧SlF (Rp.int .u8) F w v1392 x.out:=by
 obtain ⟨v0,rfl,h0⟩:=h;exact ⟨v0,rfl,h0⟩
theorem pM {F:Nat→Prop}{w:World}{x:gJ}{v0:Value}(h0:SlF (Rp.int .u8) F w v0 x.out):aK.rd F w [v0] x:=⟨_,rfl,h0⟩
structure fO where
  l:List Int
  flights:List Int
  den:Int
  deriving DecidableEq
def fU:Rp fO:=Rp.iso (Rp.pair (Rp.sl (Rp.int .i64)) (Rp.pair (Rp.sl (Rp.int .i64)) (Rp.int .i64))) fun x=>(x.l,x.flights,x.den)
theorem bK {F:Nat→Prop}{w:World}{cs:List Value}{x:fO}(h:fU.rd F w cs x): ∃v1393 v1394,cs= [v1393,v1394,.int .i64 x.den]∧SlF (Rp.int .i64) F w v1393 x.l∧SlF (Rp.int .i64) F w v1394 x.flights:=by
 obtain ⟨_,_,rfl,⟨v0,rfl,h0⟩,⟨_,_,rfl,⟨v1,rfl,h1⟩,rfl⟩⟩:=h;exact ⟨v0,v1,rfl,h0,h1⟩
theorem aHd {F:Nat→Prop}{w:World}{x:fO}{v0:Value}{v1:Value}(h0:SlF (Rp.int .i64) F w v0 x.l)(h1:SlF (Rp.int .i64) F w v1 x.flights):fU.rd F w [v0,v1,.int .i64 x.den] x:=⟨[_],_,rfl,⟨_,rfl,h0⟩,⟨[_],_,rfl,⟨_,rfl,h1⟩,rfl⟩⟩
structure Ratio where
  Num:Int
  Den:Int
  deriving DecidableEq
end Go.Lf
