/- The statement as it is given: for every input the law's function returns true and each argument reads as it did. No condition. -/
import Derived.Deep.DeepHandedRow
import Derived.SizedLaws
import Derived.Test.YtibkjjklfhfipaaGreatUV6
import Derived.Test.YtibkjjklfhfipaaGreatTNa
import Derived.Test.YtibkjjklfhfipaaGreatOPb
namespace Go.Proofs.YtibkjjklfhfipaaGreat.fleetTrendMatchesSpec
open Go.ChangeShapes Go.WideShapes Go.ChangeAt Go.RowKit
open Go.OB Go.Lf
theorem laidOut:laidOutB Tryz.prog=true:=by kernel_rfl
theorem own:ownKnob Tryz.prog.godebug=none:=by kernel_rfl
theorem o9 {H:Type}{enc:TypeId×Value->H}{w:World}{base:Nat}{sp:Nat->Bool}{held:Bool}:kN enc Tryz.prog w base sp held 9 Rp.str (λx=>okS x):=opens_str Tryz.underlying9
theorem o3 {H:Type}{enc:TypeId×Value->H}{w:World}{base:Nat}{sp:Nat->Bool}{held:Bool}:kN enc Tryz.prog w base sp held 3 (Rp.int .i64) (λx=>i64 x):=opens_i64 Tryz.underlying3
theorem o87 {H:Type}{enc:TypeId×Value->H}{w:World}{base:Nat}{sp:Nat->Bool}{held:Bool}:kN enc Tryz.prog w base sp held 87 eG (λx=>aKq x):=by
 intro fuel cs x h
 have hl:=pI (i:=0) (ft:=3) (off:=0) (by kernel_rfl) h
 obtain⟨a0,q0,k0⟩:=xN (i:=0) (ft:=3) (off:=0) (s:=1) o3 (by kernel_rfl) (by kernel_rfl) h
 obtain⟨a1,q1,k1⟩:=xN (i:=1) (ft:=3) (off:=1) (s:=1) o3 (by kernel_rfl) (by kernel_rfl) h
 obtain⟨a2,q2,k2⟩:=xN (i:=2) (ft:=3) (off:=2) (s:=1) o3 (by kernel_rfl) (by kernel_rfl) h
 have q:=(dR q0 (dR q1 q2 rfl) rfl)
 rw [List.drop_zero,List.take_of_length_le (by rw [hl];exact Nat.le_of_eq (by kernel_rfl))]at q
 exact⟨fA.mk a0 a1 a2,q,k0,k1,k2⟩
theorem o80 {H:Type}{enc:TypeId×Value->H}{w:World}{base:Nat}{sp:Nat->Bool}{held:Bool}:kN enc Tryz.prog w base sp held 80 (Rp.sl eG) (λx=>okL (λx=>aKq x) x):=uY Tryz.underlying80 (by kernel_rfl) (by decide) o87
theorem o82 {H:Type}{enc:TypeId×Value->H}{w:World}{base:Nat}{sp:Nat->Bool}{held:Bool}:kN enc Tryz.prog w base sp held 82 bDk (λx=>aWe x):=by
 intro fuel cs x h
 have hl:=pI (i:=0) (ft:=3) (off:=0) (by kernel_rfl) h
 obtain⟨a0,q0,k0⟩:=xN (i:=0) (ft:=3) (off:=0) (s:=1) o3 (by kernel_rfl) (by kernel_rfl) h
 obtain⟨a1,q1,k1⟩:=xN (i:=1) (ft:=80) (off:=1) (s:=1) o80 (by kernel_rfl) (by kernel_rfl) h
 have q:=(dR q0 q1 rfl)
 rw [List.drop_zero,List.take_of_length_le (by rw [hl];exact Nat.le_of_eq (by kernel_rfl))]at q
 exact⟨Series.mk a0 a1,q,k0,k1⟩
theorem o84 {H:Type}{enc:TypeId×Value->H}{w:World}{base:Nat}{sp:Nat->Bool}{held:Bool}:kN enc Tryz.prog w base sp held 84 eX (λx=>aDg x):=by
 intro fuel cs x h
 have hl:=pI (i:=0) (ft:=9) (off:=0) (by kernel_rfl) h
 obtain⟨a0,q0,k0⟩:=xN (i:=0) (ft:=9) (off:=0) (s:=1) o9 (by kernel_rfl) (by kernel_rfl) h
 obtain⟨a1,q1,k1⟩:=xN (i:=1) (ft:=82) (off:=1) (s:=2) o82 (by kernel_rfl) (by kernel_rfl) h
 obtain⟨a2,q2,k2⟩:=xN (i:=2) (ft:=3) (off:=3) (s:=1) o3 (by kernel_rfl) (by kernel_rfl) h
 have q:=(dR q0 (dR q1 q2 rfl) rfl)
 rw [List.drop_zero,List.take_of_length_le (by rw [hl];exact Nat.le_of_eq (by kernel_rfl))]at q
 exact⟨Track.mk a0 a1 a2,q,k0,k1,k2⟩
theorem o36 {H:Type}{enc:TypeId×Value->H}{w:World}{base:Nat}{sp:Nat->Bool}{held:Bool}:kN enc Tryz.prog w base sp held 36 (Rp.sl eX) (λx=>okL (λx=>aDg x) x):=uY Tryz.underlying36 (by kernel_rfl) (by decide) o84
theorem o38 {H:Type}{enc:TypeId×Value->H}{w:World}{base:Nat}{sp:Nat->Bool}{held:Bool}:kN enc Tryz.prog w base sp held 38 kU (λx=>kF x):=by
 intro fuel cs x h
 have hl:=pI (i:=0) (ft:=9) (off:=0) (by kernel_rfl) h
 obtain⟨a0,q0,k0⟩:=xN (i:=0) (ft:=9) (off:=0) (s:=1) o9 (by kernel_rfl) (by kernel_rfl) h
 obtain⟨a1,q1,k1⟩:=xN (i:=1) (ft:=9) (off:=1) (s:=1) o9 (by kernel_rfl) (by kernel_rfl) h
 obtain⟨a2,q2,k2⟩:=xN (i:=2) (ft:=3) (off:=2) (s:=1) o3 (by kernel_rfl) (by kernel_rfl) h
 obtain⟨a3,q3,k3⟩:=xN (i:=3) (ft:=3) (off:=3) (s:=1) o3 (by kernel_rfl) (by kernel_rfl) h
 obtain⟨a4,q4,k4⟩:=xN (i:=4) (ft:=3) (off:=4) (s:=1) o3 (by kernel_rfl) (by kernel_rfl) h
 obtain⟨a5,q5,k5⟩:=xN (i:=5) (ft:=36) (off:=5) (s:=1) o36 (by kernel_rfl) (by kernel_rfl) h
 have q:=(dR q0 (dR q1 (dR q2 (dR q3 (dR q4 q5 rfl) rfl) rfl) rfl) rfl)
 rw [List.drop_zero,List.take_of_length_le (by rw [hl];exact Nat.le_of_eq (by kernel_rfl))]at q
 exact⟨Flight.mk a0 a1 a2 a3 a4 a5,q,k0,k1,k2,k3,k4,k5⟩
theorem o22 {H:Type}{enc:TypeId×Value->H}{w:World}{base:Nat}{sp:Nat->Bool}{held:Bool}:kN enc Tryz.prog w base sp held 22 (Rp.sl kU) (λx=>okL (λx=>kF x) x):=uY Tryz.underlying22 (by kernel_rfl) (by decide) o38
theorem o23 {H:Type}{enc:TypeId×Value->H}{w:World}{base:Nat}{sp:Nat->Bool}{held:Bool}:kN enc Tryz.prog w base sp held 23 (Rp.sl Rp.str) (λx=>okL (λx=>okS x) x):=uY Tryz.underlying23 (by kernel_rfl) (by decide) o9
theorem o47 {H:Type}{enc:TypeId×Value->H}{w:World}{base:Nat}{sp:Nat->Bool}{held:Bool}:kN enc Tryz.prog w base sp held 47 dK (λx=>aLa x):=opens_of λM=>by
 induction M with
 |zero=>intro fuel cs x hf h;exact absurd hf (Nat.not_lt_zero _)
 |succ M ih=>
  intro fuel cs x hf h
  have hl:=pI (i:=0) (ft:=3) (off:=0) (by kernel_rfl) h
  obtain⟨a0,q0,k0⟩:=xN (i:=0) (ft:=3) (off:=0) (s:=1) o3 (by kernel_rfl) (by kernel_rfl) h
  obtain⟨a1,q1,k1⟩:=xN (i:=1) (ft:=9) (off:=1) (s:=1) o9 (by kernel_rfl) (by kernel_rfl) h
  obtain⟨a2,q2,k2⟩:=xN (i:=2) (ft:=9) (off:=2) (s:=1) o9 (by kernel_rfl) (by kernel_rfl) h
  obtain⟨a3,q3,k3⟩:=xN (i:=3) (ft:=3) (off:=3) (s:=1) o3 (by kernel_rfl) (by kernel_rfl) h
  obtain⟨a4,q4,k4⟩:=xN (i:=4) (ft:=3) (off:=4) (s:=1) o3 (by kernel_rfl) (by kernel_rfl) h
  obtain⟨a5,q5,k5⟩:=xN (i:=5) (ft:=3) (off:=5) (s:=1) o3 (by kernel_rfl) (by kernel_rfl) h
  obtain⟨a6,q6,k6⟩:=part_rdB (i:=6) (ft:=45) (off:=6) (s:=1) (opB_sl Tryz.underlying45 (by kernel_rfl) (by decide) ih) (by kernel_rfl) (by kernel_rfl) (Nat.le_of_lt hf) h
  obtain⟨v6,e6,s6⟩:=q6
  obtain⟨n6,s6⟩:=bBb aHe s6
  have q6:(Rp.sl (wM n6)).rd All w ((cs.drop 6).take 1) a6:=⟨v6,e6,s6⟩
  have q:=(dR q0 (dR q1 (dR q2 (dR q3 (dR q4 (dR q5 q6 rfl) rfl) rfl) rfl) rfl) rfl)
  rw [List.drop_zero,List.take_of_length_le (by rw [hl];exact Nat.le_of_eq (by kernel_rfl))]at q
  exact⟨Cond.mk a0 a1 a2 a3 a4 a5 a6,⟨n6+1,q⟩,okCond_mk k0 k1 k2 k3 k4 k5 k6⟩
theorem o71 {H:Type}{enc:TypeId×Value->H}{w:World}{base:Nat}{sp:Nat->Bool}{held:Bool}:kN enc Tryz.prog w base sp held 71 aEo (λx=>aTg x):=by
 intro fuel cs x h
 have hl:=pI (i:=0) (ft:=9) (off:=0) (by kernel_rfl) h
 obtain⟨a0,q0,k0⟩:=xN (i:=0) (ft:=9) (off:=0) (s:=1) o9 (by kernel_rfl) (by kernel_rfl) h
 obtain⟨a1,q1,k1⟩:=xN (i:=1) (ft:=9) (off:=1) (s:=1) o9 (by kernel_rfl) (by kernel_rfl) h
 obtain⟨a2,q2,k2⟩:=xN (i:=2) (ft:=47) (off:=2) (s:=7) o47 (by kernel_rfl) (by kernel_rfl) h
 have q:=(dR q0 (dR q1 q2 rfl) rfl)
 rw [List.drop_zero,List.take_of_length_le (by rw [hl];exact Nat.le_of_eq (by kernel_rfl))]at q
 exact⟨dC.mk a0 a1 a2,q,k0,k1,k2⟩
theorem o24 {H:Type}{enc:TypeId×Value->H}{w:World}{base:Nat}{sp:Nat->Bool}{held:Bool}:kN enc Tryz.prog w base sp held 24 (Rp.sl aEo) (λx=>okL (λx=>aTg x) x):=uY Tryz.underlying24 (by kernel_rfl) (by decide) o71
theorem o49 {H:Type}{enc:TypeId×Value->H}{w:World}{base:Nat}{sp:Nat->Bool}{held:Bool}:kN enc Tryz.prog w base sp held 49 aId (λx=>bAa x):=by
 intro fuel cs x h
 have hl:=pI (i:=0) (ft:=9) (off:=0) (by kernel_rfl) h
 obtain⟨a0,q0,k0⟩:=xN (i:=0) (ft:=9) (off:=0) (s:=1) o9 (by kernel_rfl) (by kernel_rfl) h
 obtain⟨a1,q1,k1⟩:=xN (i:=1) (ft:=47) (off:=1) (s:=7) o47 (by kernel_rfl) (by kernel_rfl) h
 have q:=(dR q0 q1 rfl)
 rw [List.drop_zero,List.take_of_length_le (by rw [hl];exact Nat.le_of_eq (by kernel_rfl))]at q
 exact⟨Rule.mk a0 a1,q,k0,k1⟩
theorem o25 {H:Type}{enc:TypeId×Value->H}{w:World}{base:Nat}{sp:Nat->Bool}{held:Bool}:kN enc Tryz.prog w base sp held 25 (Rp.sl aId) (λx=>okL (λx=>bAa x) x):=uY Tryz.underlying25 (by kernel_rfl) (by decide) o49
theorem o27 {H:Type}{enc:TypeId×Value->H}{w:World}{base:Nat}{sp:Nat->Bool}{held:Bool}:kN enc Tryz.prog w base sp held 27 rRules (λx=>bCe x):=by
 intro fuel cs x h
 have hl:=pI (i:=0) (ft:=23) (off:=0) (by kernel_rfl) h
 obtain⟨a0,q0,k0⟩:=xN (i:=0) (ft:=23) (off:=0) (s:=1) o23 (by kernel_rfl) (by kernel_rfl) h
 obtain⟨a1,q1,k1⟩:=xN (i:=1) (ft:=24) (off:=1) (s:=1) o24 (by kernel_rfl) (by kernel_rfl) h
 obtain⟨a2,q2,k2⟩:=xN (i:=2) (ft:=25) (off:=2) (s:=1) o25 (by kernel_rfl) (by kernel_rfl) h
 have q:=(dR q0 (dR q1 q2 rfl) rfl)
 rw [List.drop_zero,List.take_of_length_le (by rw [hl];exact Nat.le_of_eq (by kernel_rfl))]at q
 exact⟨Rules.mk a0 a1 a2,q,k0,k1,k2⟩
theorem o4 {H:Type}{enc:TypeId×Value->H}{w:World}{base:Nat}{sp:Nat->Bool}{held:Bool}:kN enc Tryz.prog w base sp held 4 Rp.bool (λ_=>True):=bAo Tryz.underlying4
theorem o77 {H:Type}{enc:TypeId×Value->H}{w:World}{base:Nat}{sp:Nat->Bool}{held:Bool}:kN enc Tryz.prog w base sp held 77 jS (λx=>aTi x):=by
 intro fuel cs x h
 have hl:=pI (i:=0) (ft:=9) (off:=0) (by kernel_rfl) h
 obtain⟨a0,q0,k0⟩:=xN (i:=0) (ft:=9) (off:=0) (s:=1) o9 (by kernel_rfl) (by kernel_rfl) h
 obtain⟨a1,q1,k1⟩:=xN (i:=1) (ft:=3) (off:=1) (s:=1) o3 (by kernel_rfl) (by kernel_rfl) h
 have q:=(dR q0 q1 rfl)
 rw [List.drop_zero,List.take_of_length_le (by rw [hl];exact Nat.le_of_eq (by kernel_rfl))]at q
 exact⟨dW.mk a0 a1,q,k0,k1⟩
theorem o28 {H:Type}{enc:TypeId×Value->H}{w:World}{base:Nat}{sp:Nat->Bool}{held:Bool}:kN enc Tryz.prog w base sp held 28 (Rp.sl jS) (λx=>okL (λx=>aTi x) x):=uY Tryz.underlying28 (by kernel_rfl) (by decide) o77
theorem o30 {H:Type}{enc:TypeId×Value->H}{w:World}{base:Nat}{sp:Nat->Bool}{held:Bool}:kN enc Tryz.prog w base sp held 30 rMask (λx=>aHp x):=by
 intro fuel cs x h
 have hl:=pI (i:=0) (ft:=4) (off:=0) (by kernel_rfl) h
 obtain⟨a0,q0,k0⟩:=xN (i:=0) (ft:=4) (off:=0) (s:=1) o4 (by kernel_rfl) (by kernel_rfl) h
 obtain⟨a1,q1,k1⟩:=xN (i:=1) (ft:=3) (off:=1) (s:=1) o3 (by kernel_rfl) (by kernel_rfl) h
 obtain⟨a2,q2,k2⟩:=xN (i:=2) (ft:=23) (off:=2) (s:=1) o23 (by kernel_rfl) (by kernel_rfl) h
 obtain⟨a3,q3,k3⟩:=xN (i:=3) (ft:=28) (off:=3) (s:=1) o28 (by kernel_rfl) (by kernel_rfl) h
 obtain⟨a4,q4,k4⟩:=xN (i:=4) (ft:=3) (off:=4) (s:=1) o3 (by kernel_rfl) (by kernel_rfl) h
 have q:=(dR q0 (dR q1 (dR q2 (dR q3 q4 rfl) rfl) rfl) rfl)
 rw [List.drop_zero,List.take_of_length_le (by rw [hl];exact Nat.le_of_eq (by kernel_rfl))]at q
 exact⟨Mask.mk a0 a1 a2 a3 a4,q,k0,k1,k2,k3,k4⟩
set_option maxHeartbeats 2000000 in
set_option maxRecDepth 100000 in
theorem contract (H:Type) (enc:TypeId×Value->H) (W:World) (base:Nat) (args:Array Value) (ds gs:List (DataW H)) (before:List MemPlace)
  (hval: ∀(j:Nat) t v,Tryz.f3.params[j]? =some t->args[j]? =some v->Value.okWide Tryz.prog W .any base t v)
  (hW:DataW.Whole enc Tryz.prog Tryz.f3.params.toList Rows.fleetTrendMatchesSpecSpec.vars false W args.toList ds gs before):
  Calls Tryz.prog 3 args W λe W'=> ∃v,e= .returned v/\Rows.fleetTrendMatchesSpecSpec.post enc Tryz.prog Tryz.f3 false true false false W args v W':=by
 have hW':=hW
 obtain⟨p,q,hA0,hV,rfl,hfz,hnd⟩:=hW
 have hA:DataW.TrodAll enc Tryz.prog W 0 (λ_=>true) true Tryz.f3.params.toList args.toList ds p:=hA0
 rw [Tryz.params3]at hA hval
 obtain⟨v0,vs0,d0,ds0,p0,q0,hargs,rfl,rfl,h0,r0⟩:=trodAll_cons hA
 obtain⟨v1,vs1,d1,ds1,p1,q1,rfl,rfl,rfl,h1,r1⟩:=trodAll_cons r0
 obtain⟨v2,vs2,d2,ds2,p2,q2,rfl,rfl,rfl,h2,r2⟩:=trodAll_cons r1
 obtain⟨v3,vs3,d3,ds3,p3,q3,rfl,rfl,rfl,h3,r3⟩:=trodAll_cons r2
 obtain⟨rfl,rfl,rfl⟩:=trodAll_nil r3
 obtain rfl:args= #[v0,v1,v2,v3]:=by cases args;simp_all
 obtain⟨rfl,rfl⟩:=trodVars_none hV
 have k0:=h0
 have lt0: ∀x∈p0,x.block<W.heap.size:=by obtain⟨m,hm⟩:=k0;exact DataW.trod_lt m _ _ _ hm
 obtain⟨fu0,hf0⟩:=h0
 obtain⟨x0,y0,z0⟩:=o22 fu0 _ _ hf0
 obtain⟨a0,n0,c0,rfl⟩:=okWide_slice Tryz.underlying22 (hval 0 22 v0 rfl rfl)
 obtain⟨u0,e0,s0_0⟩:=y0
 obtain rfl:Value.slice a0 n0 c0=u0:=by have y:[Value.slice a0 n0 c0]=[u0]:=e0;simpa using y
 have k1:=h1
 have lt1: ∀x∈p1,x.block<W.heap.size:=by obtain⟨m,hm⟩:=k1;exact DataW.trod_lt m _ _ _ hm
 obtain⟨fu1,hf1⟩:=h1
 obtain⟨x1,y1,z1⟩:=o27 fu1 _ _ hf1
 obtain⟨cs1,rfl⟩:=aNt (t:=27) (by kernel_rfl) (hval 1 27 v1 rfl rfl)
 obtain⟨u1_640,u1_641,u1_642,e1,s1_0,s1_1,s1_2⟩:=aXp y1
 obtain rfl:cs1=[u1_640,u1_641,u1_642].toArray:=by apply Array.ext';exact e1
 have k2:=h2
 have lt2: ∀x∈p2,x.block<W.heap.size:=by obtain⟨m,hm⟩:=k2;exact DataW.trod_lt m _ _ _ hm
 obtain⟨fu2,hf2⟩:=h2
 obtain⟨x2,y2,z2⟩:=o30 fu2 _ _ hf2
 obtain⟨cs2,rfl⟩:=aNt (t:=30) (by kernel_rfl) (hval 2 30 v2 rfl rfl)
 obtain⟨u2_643,u2_644,e2,s2_0,s2_1⟩:=aYg y2
 obtain rfl:cs2=[.bool x2.Tails,.int .i64 x2.Days,u2_643,u2_644,.int .i64 x2.Least].toArray:=by apply Array.ext';exact e2
 have k3:=h3
 have lt3: ∀x∈p3,x.block<W.heap.size:=by obtain⟨m,hm⟩:=k3;exact DataW.trod_lt m _ _ _ hm
 obtain⟨fu3,hf3⟩:=h3
 obtain⟨x3,y3,z3⟩:=o9 fu3 _ _ hf3
 obtain⟨a3,rfl⟩:=okWide_string Tryz.underlying9 (hval 3 9 v3 rfl rfl)
 obtain rfl:a3=bs x3:=by have y:[Value.string a3]=[Value.string (bs x3)]:=y3;simpa using y
 clear hA0
 have HH:=(Hd.fresh0 W).fzs [.sl kU (.slice a0 n0 c0) x0,.sl Rp.str u1_640 x1.Phases,.sl aEo u1_641 x1.Moves,.sl aId u1_642 x1.Rules,.sl Rp.str u2_643 x2.Hide,.sl jS u2_644 x2.Grains] ⟨aDa s0_0,aDa s1_0,aDa s1_1,aDa s1_2,aDa s2_0,aDa s2_1,trivial⟩
 refine(L.Ffjw x0 x1 x2 x3 (.slice a0 n0 c0) u1_640 u1_641 u1_642 u2_643 u2_644 true (aMt x0 x1 x2 x3 z0 z1 z2 z3) HH).mono λe W' ⟨he,G⟩=>?_
 subst he
 have bel:Below W.heap.size W W':=G.only.below
 exact⟨_,rfl,_,_,_,[],_,[],hW',trodAll_mk1 (shut_bool Tryz.underlying4 _),(trodAll_cons_mk (Below.trod laidOut (by kernel_rfl) (of_decide_eq_true (by kernel_rfl)) k0 bel lt0) (trodAll_cons_mk (Below.trod laidOut (by kernel_rfl) (of_decide_eq_true (by kernel_rfl)) k1 bel lt1) (trodAll_cons_mk (Below.trod laidOut (by kernel_rfl) (of_decide_eq_true (by kernel_rfl)) k2 bel lt2) (trodAll_cons_mk (Below.trod laidOut (by kernel_rfl) (of_decide_eq_true (by kernel_rfl)) k3 bel lt3) trodAll_mk0)))),rfl,bel.frame _,λh=>by cases h⟩

noncomputable def laidWorld (os:Os):World:=World.holding Tryz.prog os ⟨#[],#[],[]⟩
theorem laid_met (os:Os):laidMet Tryz.prog Rows.fleetTrendMatchesSpecRow.laid ((laidWorld os).forCall (λ_ _=>0) ⟨#[],#[.slice none 0 0,Value.agg #[.slice none 0 0,.slice none 0 0,.slice none 0 0],Value.agg #[.bool false,.int .i64 0,.slice none 0 0,.slice none 0 0,.int .i64 0],.string ⟨#[]⟩],[]⟩).memory:=
 laidMet_of_run' 8 (by kernel_rfl) (by kernel_rfl)
theorem reads (os:Os){H:Type}(enc:TypeId×Value->H): ∃places,DataW.whole enc Tryz.prog ((laidWorld os).forCall (λ_ _=>0) ⟨#[],#[.slice none 0 0,Value.agg #[.slice none 0 0,.slice none 0 0,.slice none 0 0],Value.agg #[.bool false,.int .i64 0,.slice none 0 0,.slice none 0 0,.int .i64 0],.string ⟨#[]⟩],[]⟩).memory Tryz.f3.params.toList Rows.fleetTrendMatchesSpecSpec.vars false #[(.slice none 0 0:Value),Value.agg #[.slice none 0 0,.slice none 0 0,.slice none 0 0],Value.agg #[.bool false,.int .i64 0,.slice none 0 0,.slice none 0 0,.int .i64 0],.string ⟨#[]⟩].toList 8=some ([.nil,.agg [.nil,.nil,.nil],.agg [.lit (.bool false),.lit (.int .i64 0),.nil,.nil,.lit (.int .i64 0)],.lit (.string [])],[],places):=
 ⟨[],by kernel_rfl⟩

set_option maxRecDepth 100000 in
theorem lifted (os:Os)(started:os.Started)(H:Type)(enc:TypeId×Value->H)(F:Stop.Interp):
  ReturnsInHanded {} Tryz.checked os 3 .any ((OpenSpec.ofChange Rows.fleetTrendMatchesSpecSpec).preRow enc Tryz.prog Tryz.f3 Rows.fleetTrendMatchesSpecRow.domain false Rows.fleetTrendMatchesSpecRow.laid) (((OpenSpec.ofChange Rows.fleetTrendMatchesSpecSpec).at F).post enc Tryz.prog Tryz.f3 false true false false):=by
 obtain⟨places,hx⟩:=reads os enc
 refine returnsInHanded_of_row (C:=Tryz.checked) (s:=(OpenSpec.ofChange Rows.fleetTrendMatchesSpecSpec)) own started (by kernel_rfl) Tryz.func3
  (witness_row_at (enc:=enc) (C:=Tryz.checked) false (laidWorld os) #[.slice none 0 0,Value.agg #[.slice none 0 0,.slice none 0 0,.slice none 0 0],Value.agg #[.bool false,.int .i64 0,.slice none 0 0,.slice none 0 0,.int .i64 0],.string ⟨#[]⟩] rfl (by kernel_rfl) (by kernel_rfl) (by kernel_rfl)
   (OpenSpec.preRow_of_cond 8 hx (by kernel_rfl) (λk hk=>by cases hk) (by kernel_rfl) (laid_met os))) ?_
 intro W base args ds gs before hval hW _ _ _ _ _ _
 exact contract H enc W base args ds gs before hval hW

theorem said:Rows.FleetTrendMatchesSpecSaid:=
 OpenClaim.holds_of_cond 3 Tryz.f3 rfl rfl rfl rfl rfl rfl rfl ⟨rfl,rfl,rfl,rfl,rfl⟩ rfl rfl rfl rfl rfl (by kernel_rfl) Tryz.func3 (by kernel_rfl)
  (of_decide_eq_true (by kernel_rfl)) (by unfold Func.isWrapper;first |(rw [if_pos (by decide+kernel)];kernel_rfl)|(rw [if_neg (by decide+kernel)];exact⟨rfl,rfl⟩))
  (λos started H enc _ F=>by rw [OpenClaim.pre_eq_preRow];exact lifted os started H enc F)
end Go.Proofs.YtibkjjklfhfipaaGreat.fleetTrendMatchesSpec
