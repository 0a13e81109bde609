/- The types of data: how they lie in memory. -/
import Derived.Test.YtckmiljbaejijaaGreatDoorNdTy
namespace Go.Lf
open Go.RowKit Go.OB
structure gW where
  kind:Int
  at_:Int
  n:Int
  text:Str
  deriving DecidableEq
def aMy:Rp gW:=Rp.iso (Rp.pair (Rp.int .i64) (Rp.pair (Rp.int .i64) (Rp.pair (Rp.int .i64) Rp.str))) fun x=>(x.kind,x.at_,x.n,x.text)
structure Cond where
  Kind:Int
  Name:Str
  Other:Str
  Op:Int
  N:Int
  Frames:Int
  Kids:List Cond
def qQ:Nat→Rp Cond
  | 0=>Rp.bot 7
  | n+1=>Rp.iso (Rp.pair (Rp.int .i64) (Rp.pair Rp.str (Rp.pair Rp.str (Rp.pair (Rp.int .i64) (Rp.pair (Rp.int .i64) (Rp.pair (Rp.int .i64) (Rp.sl (qQ n)))))))) fun x=>(x.Kind,x.Name,x.Other,x.Op,x.N,x.Frames,x.Kids)
theorem aIg: ∀n,(qQ n).sz=7
  | 0=>rfl
  | _+1=>rfl
theorem aCp {F:Nat→Prop}{w:World}{n:Nat}{cs:List Value}{x:Cond}(h:(qQ (n+1)).rd F w cs x): ∃v0,cs= [.int .i64 x.Kind,.string (bs x.Name),.string (bs x.Other),.int .i64 x.Op,.int .i64 x.N,.int .i64 x.Frames,v0]∧SlF (qQ n) F w v0 x.Kids:=by
  obtain ⟨_,_,rfl,rfl,⟨_,_,rfl,rfl,⟨_,_,rfl,rfl,⟨_,_,rfl,rfl,⟨_,_,rfl,rfl,⟨_,_,rfl,rfl,⟨v0,rfl,h0⟩⟩⟩⟩⟩⟩⟩:=h
  exact ⟨v0,rfl,h0⟩
theorem aHq {F:Nat→Prop}{w:World}{n:Nat}{x:Cond}{v0:Value}(h0:SlF (qQ n) F w v0 x.Kids):(qQ (n+1)).rd F w [.int .i64 x.Kind,.string (bs x.Name),.string (bs x.Other),.int .i64 x.Op,.int .i64 x.N,.int .i64 x.Frames,v0] x:=⟨[_],_,rfl,rfl,⟨[_],_,rfl,rfl,⟨[_],_,rfl,rfl,⟨[_],_,rfl,rfl,⟨[_],_,rfl,rfl,⟨[_],_,rfl,rfl,⟨_,rfl,h0⟩⟩⟩⟩⟩⟩⟩
theorem aCd: ∀n,(qQ n).le (qQ (n+1))
  | 0=>⟨rfl,fun _ _ _ _ h=>h.elim⟩
  | n+1=>⟨rfl,fun F w cs x h=>by
    obtain ⟨v0,rfl,h0⟩:=aCp h
    exact aHq (slf_le (aCd n) h0)⟩
def fA:Rp Cond:=Rp.lim qQ 7 aIg
theorem cO {F:Nat→Prop}{w:World}{cs:List Value}{x:Cond}(h:fA.rd F w cs x): ∃v0,cs= [.int .i64 x.Kind,.string (bs x.Name),.string (bs x.Other),.int .i64 x.Op,.int .i64 x.N,.int .i64 x.Frames,v0]∧SlF (fA) F w v0 x.Kids:=by
  obtain ⟨n,h⟩:=h
  cases n with
  | zero=>exact h.elim
  | succ n=>
    obtain ⟨v0,rfl,h0⟩:=aCp h
    exact ⟨v0,rfl,slf_le (le_lim (h:=aIg) n) h0⟩
theorem qA {F:Nat→Prop}{w:World}{x:Cond}{v0:Value}(h0:SlF (fA) F w v0 x.Kids):fA.rd F w [.int .i64 x.Kind,.string (bs x.Name),.string (bs x.Other),.int .i64 x.Op,.int .i64 x.N,.int .i64 x.Frames,v0] x:=by
  obtain ⟨n,h0⟩:=aRx aCd h0
  exact ⟨n+1,aHq h0⟩
structure aF where
  From:Str
  To:Str
  When:Cond
def gX:Rp aF:=Rp.iso (Rp.pair Rp.str (Rp.pair Rp.str fA)) fun x=>(x.From,x.To,x.When)
theorem uU {F:Nat→Prop}{w:World}{cs:List Value}{x:aF}(h:gX.rd F w cs x): ∃v240,cs= [.string (bs x.From),.string (bs x.To),.int .i64 x.When.Kind,.string (bs x.When.Name),.string (bs x.When.Other),.int .i64 x.When.Op,.int .i64 x.When.N,.int .i64 x.When.Frames,v240]∧SlF fA F w v240 x.When.Kids:=by
  obtain ⟨_,_,rfl,rfl,⟨_,_,rfl,rfl,r2⟩⟩:=h
  obtain ⟨v2_6,rfl,h2_6⟩:=cO r2
  exact ⟨v2_6,rfl,h2_6⟩
structure dH where
  Name:Str
  When:Cond
def fB:Rp dH:=Rp.iso (Rp.pair Rp.str fA) fun x=>(x.Name,x.When)
theorem jE {F:Nat→Prop}{w:World}{cs:List Value}{x:dH}(h:fB.rd F w cs x): ∃v241,cs= [.string (bs x.Name),.int .i64 x.When.Kind,.string (bs x.When.Name),.string (bs x.When.Other),.int .i64 x.When.Op,.int .i64 x.When.N,.int .i64 x.When.Frames,v241]∧SlF fA F w v241 x.When.Kids:=by
  obtain ⟨_,_,rfl,rfl,r1⟩:=h
  obtain ⟨v1_6,rfl,h1_6⟩:=cO r1
  exact ⟨v1_6,rfl,h1_6⟩
theorem aLk {F:Nat→Prop}{w:World}{x:dH}{v0:Value}(h0:SlF fA F w v0 x.When.Kids):fB.rd F w [.string (bs x.Name),.int .i64 x.When.Kind,.string (bs x.When.Name),.string (bs x.When.Other),.int .i64 x.When.Op,.int .i64 x.When.N,.int .i64 x.When.Frames,v0] x:=⟨[_],_,rfl,rfl,(qA h0)⟩
structure Rules where
  Phases:List Str
  Moves:List aF
  Rules:List dH
def aJd:Rp Rules:=Rp.iso (Rp.pair (Rp.sl Rp.str) (Rp.pair (Rp.sl gX) (Rp.sl fB))) fun x=>(x.Phases,x.Moves,x.Rules)
theorem aMf {F:Nat→Prop}{w:World}{cs:List Value}{x:Rules}(h:aJd.rd F w cs x): ∃v242 v243 v244,cs= [v242,v243,v244]∧SlF Rp.str F w v242 x.Phases∧SlF gX F w v243 x.Moves∧SlF fB F w v244 x.Rules:=by
  obtain ⟨_,_,rfl,⟨v0,rfl,h0⟩,⟨_,_,rfl,⟨v1,rfl,h1⟩,⟨v2,rfl,h2⟩⟩⟩:=h
  exact ⟨v0,v1,v2,rfl,h0,h1,h2⟩
structure gB where
  text:Str
  at_:Int
  now:gW
  r:Rules
def dM:Rp gB:=Rp.iso (Rp.pair Rp.str (Rp.pair (Rp.int .i64) (Rp.pair aMy aJd))) fun x=>(x.text,x.at_,x.now,x.r)
theorem bW {F:Nat→Prop}{w:World}{cs:List Value}{x:gB}(h:dM.rd F w cs x): ∃v245 v246 v247,cs= [.string (bs x.text),.int .i64 x.at_,.int .i64 x.now.kind,.int .i64 x.now.at_,.int .i64 x.now.n,.string (bs x.now.text),v245,v246,v247]∧SlF Rp.str F w v245 x.r.Phases∧SlF gX F w v246 x.r.Moves∧SlF fB F w v247 x.r.Rules:=by
  obtain ⟨_,_,rfl,rfl,⟨_,_,rfl,rfl,⟨_,_,rfl,⟨_,_,rfl,rfl,⟨_,_,rfl,rfl,⟨_,_,rfl,rfl,rfl⟩⟩⟩,⟨_,_,rfl,⟨v3_0,rfl,h3_0⟩,⟨_,_,rfl,⟨v3_1,rfl,h3_1⟩,⟨v3_2,rfl,h3_2⟩⟩⟩⟩⟩⟩:=h
  exact ⟨v3_0,v3_1,v3_2,rfl,h3_0,h3_1,h3_2⟩
theorem bG {F:Nat→Prop}{w:World}{x:gB}{v0:Value}{v1:Value}{v2:Value}(h0:SlF Rp.str F w v0 x.r.Phases)(h1:SlF gX F w v1 x.r.Moves)(h2:SlF fB F w v2 x.r.Rules):dM.rd F w [.string (bs x.text),.int .i64 x.at_,.int .i64 x.now.kind,.int .i64 x.now.at_,.int .i64 x.now.n,.string (bs x.now.text),v0,v1,v2] x:=⟨[_],_,rfl,rfl,⟨[_],_,rfl,rfl,⟨[_,_,_,_],_,rfl,⟨[_],_,rfl,rfl,⟨[_],_,rfl,rfl,⟨[_],_,rfl,rfl,rfl⟩⟩⟩,⟨[_],_,rfl,⟨_,rfl,h0⟩,⟨[_],_,rfl,⟨_,rfl,h1⟩,⟨_,rfl,h2⟩⟩⟩⟩⟩⟩
structure eX where
  At:Int
  N:Int
  Mark:Int
  deriving DecidableEq
def eU:Rp eX:=Rp.iso (Rp.pair (Rp.int .i64) (Rp.pair (Rp.int .i64) (Rp.int .i64))) fun x=>(x.At,x.N,x.Mark)
theorem aK {F:Nat→Prop}{w:World}{cs:List Value}{x:eX}(h:eU.rd F w cs x):cs= [.int .i64 x.At,.int .i64 x.N,.int .i64 x.Mark]:=by
  obtain ⟨_,_,rfl,rfl,⟨_,_,rfl,rfl,rfl⟩⟩:=h
  exact rfl
structure Series where
  Den:Int
  Samples:List eX
  deriving DecidableEq
def aQv:Rp Series:=Rp.iso (Rp.pair (Rp.int .i64) (Rp.sl eU)) fun x=>(x.Den,x.Samples)
structure fH where
  Name:Str
  Series:Series
  Long:Int
  deriving DecidableEq
def eF:Rp fH:=Rp.iso (Rp.pair Rp.str (Rp.pair aQv (Rp.int .i64))) fun x=>(x.Name,x.Series,x.Long)
theorem mZ {F:Nat→Prop}{w:World}{cs:List Value}{x:fH}(h:eF.rd F w cs x): ∃v249,cs= [.string (bs x.Name),.int .i64 x.Series.Den,v249,.int .i64 x.Long]∧SlF eU F w v249 x.Series.Samples:=by
  obtain ⟨_,_,rfl,rfl,⟨_,_,rfl,⟨_,_,rfl,rfl,⟨v1_1,rfl,h1_1⟩⟩,rfl⟩⟩:=h
  exact ⟨v1_1,rfl,h1_1⟩
structure dQ where
  name:Bool
  other:Bool
  op:Bool
  n:Bool
  frames:Bool
  least:Int
  most:Int
  deriving DecidableEq
structure fU where
  tracks:List (Str×Int)
  dens:List Int
  phases:List Str
  rules:List (Str×Int)
structure gJ where
  told:List eH
  possible:List Bool
  rules:List Int
  deriving DecidableEq
structure gU where
  out:List Int
  deriving DecidableEq
def aY:Rp gU:=Rp.iso (Rp.sl (Rp.int .u8)) fun x=>(x.out)
theorem sK {F:Nat→Prop}{w:World}{cs:List Value}{x:gU}(h:aY.rd F w cs x): ∃v253,cs= [v253]∧SlF (Rp.int .u8) F w v253 x.out:=by
  obtain ⟨v0,rfl,h0⟩:=h
  exact ⟨v0,rfl,h0⟩
theorem uX {F:Nat→Prop}{w:World}{x:gU}{v0:Value}(h0:SlF (Rp.int .u8) F w v0 x.out):aY.rd F w [v0] x:=⟨_,rfl,h0⟩
structure aEf where
  at_:Int
  e:Int
  deriving DecidableEq
end Go.Lf
