/- Walks: what each function computes, for every argument; no condition but those that stand in the statements. -/
import Derived.Test.YtckmiljbaejijaaGreatDoorNTa
namespace Go.Lf
mutual
def ndp (D:List Int):Nd→Int
  | .constant _=>1
  | .number _ _ _=>1
  | .pair _ _ _ _ _=>1
  | .steady _ _ fr _=>if fr<1 then -1 else fr
  | .phase _=> -1
  | .rule r=>(at' D r).getD (-1)
  | .not k=>if ndp D k<0 then -1 else ndp D k
  | .group ks _=>if ndpL D ks<0 then -1 else max 1 (ndpL D ks)
  | .count k _ fr _ _=>if ndp D k<0∨fr<1 then -1 else ndp D k+fr - 1
  | .since _ _ _ _=> -1
  | .rises k _ _=>if ndp D k<0 then -1 else ndp D k+1
def ndpL (D:List Int):List Nd→Int
  | []=>0
  | k :: ks=>if ndp D k<0 then -1 else if ndpL D ks<0 then -1 else max (ndp D k) (ndpL D ks)
end
def agr {α:Type}(n:Nat)(l l':List α):Prop:=n≤l.length∧n≤l'.length∧l.drop (l.length - n)=l'.drop (l'.length - n)
inductive Sim (D:List Int) (A:Nat):Nd→Nd→Prop
  | constant (t:Int):Sim D A (.constant t) (.constant t)
  | number (tr op n:Int):Sim D A (.number tr op n) (.number tr op n)
  | pair (a b da db op:Int):Sim D A (.pair a b da db op) (.pair a b da db op)
  | steady (tr n fr:Int) (l l':List eH):agr (min A (fr.toNat - 1)) l l'→Sim D A (.steady tr n fr l) (.steady tr n fr l')
  | phase (p:Int):Sim D A (.phase p) (.phase p)
  | rule (r:Int):Sim D A (.rule r) (.rule r)
  | not (k k':Nd):Sim D A k k'→Sim D A (.not k) (.not k')
  | group (ks ks':List Nd) (any:Bool):ks.length=ks'.length→(∀(i:Nat) k k',ks[i]? =some k→ks'[i]? =some k'→Sim D A k k')→Sim D A (.group ks any) (.group ks' any)
  | count (k k':Nd) (n fr:Int) (l l':List Int) (t t':Arr 3 Int):Sim D A k k'→(0≤ndp D k→agr (min (A+1 - (ndp D k).toNat) (fr.toNat - 1)) l l')→Sim D A (.count k n fr l t) (.count k' n fr l' t')
  | since (a b a' b':Nd) (l l':Int) (g g':Bool):Sim D A (.since a b l g) (.since a' b' l' g')
  | rises (k k':Nd) (l l':Int) (g g':Bool):Sim D A k k'→(0≤ndp D k→ndp D k≤A→l=l')→Sim D A (.rises k l g) (.rises k' l' g')
structure SimM (D:List Int)(A:Nat)(R:Nat)(m m':gJ):Prop where
  t:m.told=m'.told
  p:m.possible.length=m'.possible.length
  r: ∀r:Int,0≤r→r<R→0≤(at' D r).getD (-1)→(at' D r).getD (-1)≤(A:Int)+1→(at' m.rules r).getD 0=(at' m'.rules r).getD 0
end Go.Lf
namespace Go.Lf
theorem nxt_rules (told:List eH)(w:gW):(nxt told w).2.rules=(rst told (nxtP told w) [] w.rules).map Prod.snd:=rfl
theorem nxt_truths (told:List eH)(w:gW):(nxt told w).1=(rst told (nxtP told w) [] w.rules).map Prod.fst:=rfl
theorem nxt_len (told:List eH)(w:gW):(nxt told w).1.length=w.rules.length∧(nxt told w).2.rules.length=w.rules.length:=by
  rw [nxt_rules,nxt_truths,List.length_map,List.length_map,rst_len]; exact ⟨rfl,rfl⟩
structure SimW (D:List Int)(A:Nat)(w w':gW):Prop where
  l:w.rules.length=w'.rules.length
  s: ∀(i:Nat) k k',w.rules[i]? =some k→w'.rules[i]? =some k'→Sim D A k k'
  d: ∀(i:Nat) k,w.rules[i]? =some k→ndp D k=(at' D (i:Int)).getD (-1)
end Go.Lf
namespace Go.Lf
def hon (t t':Int):Prop:=t'=0∨t'=t
def honT (x x':eH):Prop:=x'.Known=false∨x'=x
def pw {α:Type}(R:α→α→Prop)(l l':List α):Prop:=l.length=l'.length∧ ∀(i:Nat) x x',l[i]? =some x→l'[i]? =some x'→R x x'
def big (x:eH):Prop:= -1125899906842624≤x.N∧x.N≤1125899906842624
end Go.Lf
namespace Go.Lf
def sbs (l l':List Bool):Prop:=l.length=l'.length∧ ∀i:Nat,l[i]? =some true→l'[i]? =some true
inductive Hn:Nd→Nd→Prop
  | constant (t:Int):Hn (.constant t) (.constant t)
  | number (tr op n:Int):Hn (.number tr op n) (.number tr op n)
  | pair (a b da db op:Int):Hn (.pair a b da db op) (.pair a b da db op)
  | steady (tr n fr:Int) (l l':List eH):0≤n→pw honT l l'→(∀x ∈ l,big x)→(∀x ∈ l',big x)→Hn (.steady tr n fr l) (.steady tr n fr l')
  | phase (p:Int):Hn (.phase p) (.phase p)
  | rule (r:Int):Hn (.rule r) (.rule r)
  | not (k k':Nd):Hn k k'→Hn (.not k) (.not k')
  | group (ks ks':List Nd) (any:Bool):ks.length=ks'.length→(∀(i:Nat) k k',ks[i]? =some k→ks'[i]? =some k'→Hn k k')→Hn (.group ks any) (.group ks' any)
  | count (k k':Nd) (n fr:Int) (l l':List Int) (t t':Arr 3 Int):Hn k k'→pw hon l l'→Hn (.count k n fr l t) (.count k' n fr l' t')
  | since (a b a' b':Nd) (l l':Int) (g g':Bool):Hn a a'→Hn b b'→hon l l'→Hn (.since a b l g) (.since a' b' l' g')
  | rises (k k':Nd) (l l':Int) (g g':Bool):Hn k k'→hon l l'→Hn (.rises k l g) (.rises k' l' g')
structure HM (m m':gJ):Prop where
  t:pw honT m.told m'.told
  b: ∀x ∈ m.told,big x
  b': ∀x ∈ m'.told,big x
  p:sbs m.possible m'.possible
  n:m.possible≠ []→ ∃i:Nat,m.possible[i]? =some true
  l:m.possible.length≤2000000
  r:pw hon m.rules m'.rules
end Go.Lf
namespace Go.Lf
def some1 (l:List Bool):Prop:= ∃i:Nat,l[i]? =some true
end Go.Lf
namespace Go.Lf
structure HnW (w w':gW):Prop where
  ph:w.phases=w'.phases
  ml:w.moves.length=w'.moves.length
  mv: ∀(i:Nat) x x',w.moves[i]? =some x→w'.moves[i]? =some x'→x.from_=x'.from_∧x.to=x'.to∧Hn x.when x'.when
  rl:w.rules.length=w'.rules.length
  ru: ∀(i:Nat) k k',w.rules[i]? =some k→w'.rules[i]? =some k'→Hn k k'
  po:sbs w.possible w'.possible
  so:w.possible≠ []→some1 w.possible
end Go.Lf
