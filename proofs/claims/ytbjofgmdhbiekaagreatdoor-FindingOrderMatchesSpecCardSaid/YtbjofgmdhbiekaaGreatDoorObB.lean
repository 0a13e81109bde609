/- Laws that the claim stands on; no condition beyond those stated. -/
import Derived.Test.YtbjofgmdhbiekaaGreatDoorObA
import Derived.Laws.AppendOwn
import Derived.Laws.OwnMore
import Derived.Great.BuildSlice
import Derived.DeepKeys
import Derived.Laws.MakeOwn
import Derived.Laws.StructEq
import Derived.Laws.BytesArg
import Derived.Great.FillDense
import Derived.OpenShut
import Derived.ProofKit
import Derived.Lib.LaidTab
import Derived.ArgAppend
/- A region that draws its order and whose operations are of three kinds: those that look at no memory; those that read it (calls that keep what was there among them);
   those that change it. One walk, in one order, serves every order, if what changes memory is tied to what reads it. -/
namespace Go.OB
open Go.RowKit

inductive Kd where
 |pure|read|eff
def Kd.isPure:Kd->Bool
 | .pure=>true|_=>false
def aBs (P:Program)(w:World)(v:Value):Result Next->Prop
 | .ok (.value u) w'=>w'=w/\u=v
 | .ok .skip w'=>w'=w/\v=undef
 | .ok (.enter f args) w'=>w'=w/\Calls P f args w (λe a=>e= .returned v/\fJ w a)
 |_=>False
def aBr (P:Program)(ops:Array Oper)(w:World)(o:Oper)(v:Value)(a:Act):Prop:=
 (Region.wanted o (yielded ops a.tmps)=true/\ ∀w',fJ w w'->aBs P w' v ((execOp a.eval o).run P w'))\/(Region.wanted o (yielded ops a.tmps)=false/\v=undef)
theorem fJ.refl (w:World):fJ w w:=Below.refl _ _
theorem fJ.trans {a b c:World}(h:fJ a b)(k:fJ b c):fJ a c:=Below.trans h (Below.mono k h.size)

section
variable {P:Program}{ops:Array Oper}{kd:Nat->Kd}{Q:Act->World->Prop}

theorem aBr.of_same {w:World}{o:Oper}{v:Value}{a a':Act}(f:aBr P ops w o v a)(h:execOp a'.eval o=execOp a.eval o)
    (p:Region.wanted o (yielded ops a'.tmps)=Region.wanted o (yielded ops a.tmps)):aBr P ops w o v a':=by
 unfold aBr at *;rw [h,p];exact f
theorem aBr.Z {w w':World}{o:Oper}{v:Value}{a:Act}(f:aBr P ops w o v a)(p:fJ w w'):aBr P ops w' o v a:=by
 rcases f with ⟨A,B⟩|h
 ·exact .inl ⟨A,λC D=>B C (p.trans D)⟩
 ·exact .inr h

end

def kdOf (κ:List Kd)(i:Nat):Kd:=κ.getD i .pure

section
variable {P:Program}{N:Nat}{ops:Array Oper}{κ:List Kd}{K:Env->World->Prop}{Q:Exit->Env->World->Prop}{k:Nat}{rest:List Oper}{ρ:Env}{w:World}{v:Value}{d:Nat}{op:Op}{ty:TypeId}{pos:String}{af:Array Edge}{g:Option (Nat×Bool)}

theorem XL.head {o:Oper}(a: ∀j,(o::rest)[j]? =ops[k+j]?):ops[k]? =some o:=by simpa using(a 0).symm
theorem XL.tail {o:Oper}(a: ∀j,(o::rest)[j]? =ops[k+j]?): ∀j,rest[j]? =ops[k+1+j]? :=λj=>by
 have:=a (j+1);simpa [Nat.add_assoc,Nat.add_comm 1 j]using this

end

inductive It where
 |blk (b:Nat) (cs:List Value) (T:TypeId)
 |sl (v:Value) (e:TypeId) (s n:Nat) (xs:List Value)
 |rd (v:Value) (s n:Nat) (xs:List Value)

def ob (v:Value):List Nat:=(qG v).toList
def It.blocks:It->List Nat
 | .blk b _ _=>[b]
 | .sl v _ _ _ _=>ob v
 | .rd v _ _ _=>ob v
def It.holds (w:World):It->Prop
 | .blk b cs T=>Blk w b cs T
 | .sl v e s n xs=>w.ownsRow 0 e s v n xs
 | .rd v s n xs=>SlR w v s n xs

structure Sep (S:List Nat)(w0 w:World)(l:List It):Prop where
 only:Only S w0 w
 holds: ∀it∈l,it.holds w
 own: ∀it∈l,∀b∈it.blocks,(w0.heap.size<=b\/b∈S)/\b<w.heap.size
 nd:(l.flatMap It.blocks).Nodup

theorem uK {v:Value}{b:Nat}:b∈ob v↔qG v=some b:=by unfold ob;cases qG v<;>simp [eq_comm]
theorem aBn (v:Value):v.ownBlock=qG v:=by
 cases v<;>rfl

theorem owns_only {S:List Nat}{w w':World}{B:Nat}{v:Value}{e s n:Nat}{xs:List Value} (h:w.ownsRow B e s v n xs) (p:Only S w w') (A: ∀b∈ob v,b∉S):w'.ownsRow B e s v n xs:=by
 refine⟨h.1,?_⟩;rcases h.2 with C|⟨g,cap,a,rfl,D,f,rest⟩
 ·exact .inl C
 ·refine .inr ⟨g,cap,a,rfl,D,?_,rest⟩;rw [p.block g (Array.getElem?_eq_some_iff.1 f).1 (A g (by simp [ob,qG]))];exact f
theorem aKr {w:World}{B:Nat}{v:Value}{e s n:Nat}{xs:List Value} (h:w.ownsRow B e s v n xs):SlR w v s n xs:=by
 refine⟨h.1,?_⟩;rcases h.2 with p|⟨g,cap,f,rfl,_,A,C,D,_,E⟩
 ·exact .inl p
 ·refine .inr ⟨⟨g,0,none⟩,cap,rfl,C,D,λ_=>rfl,?_⟩;intro i u a;rw [Addr.add_none,Nat.zero_add,cell_of_row w g i f e (0,0) A];rw [<-E,List.getElem?_take]at a;split at a
  ·simpa using a
  ·cases a
theorem aCe {w:World}{B:Nat}{v:Value}{e s n:Nat}{xs:List Value}(h:w.ownsRow B e s v n xs): ∀b∈ob v,B<=b/\b<w.heap.size:=by
 intro b a;exact h.lt b (by rw [aBn];exact uK.1 a)

theorem It.only {S:List Nat}{w w':World}{a:It}(h:a.holds w)(f:Only S w w')(p: ∀b∈a.blocks,b∉S):a.holds w':=by
 cases a with
 |blk b cs T=>exact Blk.only h f (p b (by simp [It.blocks]))
 |sl v e s n xs=>exact owns_only h f p
 |rd v s n xs=>exact SlR.only h f (λ_ b A=>p b (uK.2 A))

section
variable {S:List Nat}{w0 w w':World}{l:List It}{i:Nat}{b:Nat}{cs cs':List Value}{T:TypeId}{v:Value}{e s n:Nat}{xs:List Value}

theorem Sep.V (h:Sep S w0 w l){a:It}(hi:l[i]? =some a):a.holds w:=h.holds a (qS hi)
theorem Sep.blk (h:Sep S w0 w l)(hi:l[i]? =some (.blk b cs T)):Blk w b cs T:=h.V hi
theorem Sep.sl (h:Sep S w0 w l)(hi:l[i]? =some (.sl v e s n xs)):w.ownsRow 0 e s v n xs:=h.V hi
theorem Sep.rd (h:Sep S w0 w l)(hi:l[i]? =some (.rd v s n xs)):SlR w v s n xs:=h.V hi
theorem Sep.step (h:Sep S w0 w l)(f:Only [] w w'):Sep S w0 w' l:=
 ⟨h.only.trans (f.mono (by simp)),λa hm=>It.only (h.holds a hm) f (by simp),λa hm b p=>⟨(h.own a hm b p).1,Nat.lt_of_lt_of_le (h.own a hm b p).2 f.size⟩,h.nd⟩
theorem Sep.below (h:Sep S w0 w l)(a:Below w.heap.size w w'):Sep S w0 w' l:=h.step (Only.of_below a)
theorem Sep.Z (h:Sep S w0 w l)(a:fJ w w'):Sep S w0 w' l:=h.below a
structure Ap (w w':World)(v v':Value)(e s n:Nat)(xs:List Value):Prop where
 own:w'.ownsRow 0 e s v' n xs
 only:Only (ob v) w w'
 blk: ∀b,qG v'=some b->qG v=some b\/w.heap.size<=b
end

section
variable {P:Program}{N:Nat}{ops:Array Oper}{κ:List Kd}{K:Env->World->Prop}{Q:Exit->Env->World->Prop}{k:Nat}{rest:List Oper}{ρ:Env}{w:World}{v:Value}{d:Nat}{op:Op}{ty:TypeId}{pos:String}{af:Array Edge}{g:Option (Nat×Bool)}

theorem nZ {R:Value->World->Prop}(a:fM N ops ρ ⟨some d,op,ty,pos,af,g⟩=true)(hd:Nat.blt d N=true)(h: ∃v w',Do P ⟨some d,op,ty,pos,af,g⟩ ρ w v w'/\R v w')
    (k: ∀v w',R v w'->RL P N ops Q rest (upd ρ d v) w'):RL P N ops Q (⟨some d,op,ty,pos,af,g⟩::rest) ρ w:=by
 obtain⟨v,w',f,p⟩:=h;exact aF a hd f (k v w' p)
theorem RL_exU {R:World->Prop}(a:fM N ops ρ ⟨none,op,ty,pos,af,g⟩=true)(h: ∃w',DoU P ⟨none,op,ty,pos,af,g⟩ ρ w w'/\R w')
    (k: ∀w',R w'->RL P N ops Q rest ρ w'):RL P N ops Q (⟨none,op,ty,pos,af,g⟩::rest) ρ w:=by
 obtain⟨w',f,p⟩:=h;exact RL_doU a f (k w' p)
end

section
variable {P:Program}{ρ:Env}{w:World}{d:Option Tmp}{x y z:Operand}{t u ty e:TypeId}{pos:String}{af:Array Edge}{g:Option (Nat×Bool)}
variable {v:Value}{b o i j m n c s:Nat}{k k':IntKind}{q:Int}{cs cs' xs ys:List Value}{T:TypeId}

theorem Ex_alloc (a:Zero P t cs): ∃v w',Do P ⟨d,.alloc t,ty,pos,af,g⟩ ρ w v w'/\ ∃b,v= .pointer (some ⟨b,0,none⟩)/\Al w w' b cs t:=by
 refine⟨.pointer (some ⟨w.heap.size,0,none⟩),w.alloc (.cells cs.toArray t),?_,_,rfl,Al.mk' w cs t⟩;unfold Zero at a
 cases hi:P.info? t with
 |none=>rw [hi]at a;cases a
 |some f=>
  rw [hi]at a
  cases hzz:f.zero with
  |none=>simp [hzz]at a
  |some _=>
   simp [hzz]at a;unfold Do;simp [execOp,Instr.alloc,zeroValue,typeInfo,hi,hzz,newVar,newRow,newObj,Sem.run,<-a]
theorem Ex_box (a:ev ρ x= .agg cs.toArray): ∃v w',Do P ⟨d,.box t x,ty,pos,af,g⟩ ρ w v w'/\ ∃b,v= .pointer (some ⟨b,0,none⟩)/\Al w w' b cs t:=by
 refine⟨.pointer (some ⟨w.heap.size,0,none⟩),w.alloc (.cells cs.toArray t),?_,_,rfl,Al.mk' w cs t⟩;unfold Do;simp [execOp,a,Instr.box,newVar,newRow,newObj,Sem.run,Value.cells]
theorem Ex_box1 (a:ev ρ x=v)(f:v.cells= #[v]): ∃u w',Do P ⟨d,.box t x,ty,pos,af,g⟩ ρ w u w'/\ ∃b,u= .pointer (some ⟨b,0,none⟩)/\Al w w' b [v] t:=by
 refine⟨.pointer (some ⟨w.heap.size,0,none⟩),w.alloc (.cells #[v] t),?_,_,rfl,Al.mk' w [v] t⟩;unfold Do;simp [execOp,a,Instr.box,newVar,newRow,newObj,Sem.run,f]
def splice (cs:List Value)(i:Nat)(vs:List Value):List Value:=cs.take i++vs++cs.drop (i+vs.length)
theorem nH {cs vs:List Value}{i:Nat}(h:i+vs.length<=cs.length):(splice cs i vs).length=cs.length:=by simp [splice];omega
theorem aTj {cs:List Value}{i:Nat}(hi:i<cs.length)(v:Value):splice cs i [v]=cs.set i v:=by
 unfold splice;rw [List.set_eq_take_append_cons_drop,if_pos hi];simp
theorem aKb {cs vs:List Value}(h:vs.length=cs.length):splice cs 0 vs=vs:=by unfold splice;simp [List.drop_eq_nil_of_le,h]
theorem run_store {vs:List Value}(a:Blk w b cs T)(hi:i+vs.length<=cs.length)(f: ∀v∈vs,v.oneCell'=true):
    ∃w',(storeCells ⟨b,i,none⟩ vs 0).run P w= .ok () w'/\Wr w w' b (splice cs i vs) T:=by
 have h:=run_storeCells_at P b i T vs 0 cs.toArray w a (by simpa using hi) f;simp only [Nat.add_zero]at h;refine⟨_,h,?_⟩;exact Wr.setRow a (splice cs i vs)
theorem vF {vs:List Value}{m:Nat}(a:Sz P t m)(hm:vs.length=m)(f:ev ρ x= .pointer (some ⟨b,i,none⟩))(p:(ev ρ y).cells=vs.toArray)(A: ∀v∈vs,v.oneCell'=true)(B:Blk w b cs T)(hi:i+vs.length<=cs.length):
    ∃w',DoU P ⟨none,.store t x y,ty,pos,af,g⟩ ρ w w'/\Wr w w' b (splice cs i vs) T:=by
 subst hm;obtain⟨w',h,C⟩:=run_store (P:=P) B hi A;refine⟨w',?_,C⟩;unfold DoU;simp [execOp,f,Instr.storeAt,Instr.sureAddr,storeVar,p,bC a,h]
theorem Ex_store1 (f:Sz P t 1)(p:ev ρ x= .pointer (some ⟨b,i,none⟩))(A:ev ρ y=v)(B:v.oneCell'=true)(C:Blk w b cs T)(hi:i<cs.length):
    ∃w',DoU P ⟨none,.store t x y,ty,pos,af,g⟩ ρ w w'/\Wr w w' b (cs.set i v) T:=by
 have D:(ev ρ y).cells=[v].toArray:=by rw [A];cases v<;>simp_all [Value.cells,Value.oneCell']
 obtain⟨w',h,a⟩:=vF (P:=P) (ty:=ty) (pos:=pos) (af:=af) (g:=g) (vs:=[v]) f rfl p D (by simpa using B) C (Nat.succ_le_of_lt hi);exact⟨w',h,by rw [aTj hi]at a;exact a⟩
theorem aRa {vs:List Value}{m:Nat}(a:Sz P t m)(hm:vs.length=m)(f:ev ρ x= .pointer (some ⟨b,i,none⟩))(h:ev ρ y= .agg vs.toArray)(p: ∀v∈vs,v.oneCell'=true)(A:Blk w b cs T)(hi:i+vs.length<=cs.length):
  ∃w',DoU P ⟨none,.store t x y,ty,pos,af,g⟩ ρ w w'/\Wr w w' b (splice cs i vs) T:=vF a hm f (by rw [h];rfl) p A hi
structure El (P:Program)(e:TypeId)(s bytes:Nat)(zs:List Value):Prop where
 sz:(P.info? e).map (·.size)=some s
 by_:(P.info? e).map (·.bytes)=some bytes
 zero:((P.info? e).bind (·.zero)).map (·.cells.toList)=some zs
 pos:0<s
 len:zs.length=s
theorem El.get {bytes:Nat}{zs:List Value}(h:El P e s bytes zs): ∃i z,P.info? e=some i/\i.zero=some z/\i.size=s/\i.bytes=bytes/\z.cells=zs.toArray:=by
 obtain⟨a,p,f,_,_⟩:=h
 cases hi:P.info? e with
 |none=>rw [hi]at a;cases a
 |some i=>
  rw [hi]at a p f
  cases hz:i.zero with
  |none=>simp [hz]at f
  |some z=>
   simp at a p;simp [hz]at f;exact⟨i,z,rfl,hz,a,p,by rw [<-f]⟩

def jC (s len:Nat)(zs:List Value)(ps:List (Nat×Value)):Option (List Value):=(Instr.fill (λi=>some (i*s,s)) ((Array.range (len*s)).map (zs.toArray[· %zs.toArray.size]!)) ps).map (·.toList)
theorem Ex_bs {len bytes:Nat}{zs:List Value}{parts:Array (Nat×Operand)}(B:P.underlying t=some (.slice e))(C:El P e s bytes zs)(f:len*s<=16777216)(A:0<len*s)
  (a:jC s len zs (parts.toList.map λp=>(p.1,ev ρ p.2))=some cs):
  ∃v w',Do P ⟨d,.buildSlice t len parts,ty,pos,af,g⟩ ρ w v w'/\ ∃b,v= .slice (some ⟨b,0,none⟩) len len/\Al w w' b cs e:=by
 obtain⟨i,z,D,E,h,_,F⟩:=C.get;refine⟨_,_,?_,w.heap.size,rfl,Al.mk' w cs e⟩;unfold Do;unfold jC at a;rw [Option.map_eq_some_iff]at a;obtain⟨G,a,rfl⟩:=a;have I:=run_buildSlice (P:=P) w t e len (parts.map λ(i,x)=>(i,ev ρ x)) G i z B D E (by rw [h];omega) (by rw [h];omega) (by
  rw [h,F,Array.toList_map];exact a)
 simp [execOp,I]
theorem Ex_append {bytes:Nat}{zs:List Value}{u:Value} (M:P.underlying t=some (.slice e)) (he:El P e s bytes zs) (hx:ev ρ x=v) (hy:ev ρ y=u) (a:w.ownsRow 0 e s v n xs) (E:SlR w u s m ys)
  (h1: ∀u∈ys,u.oneCell'=true) (F:n+m<=maxLen) (G:(n+m)*bytes<=140737488355328):
  ∃D w',Do P ⟨d,.call {callee:= .builtin .append,args:= #[x,y],argTypes:= #[t,t]},ty,pos,af,g⟩ ρ w D w'/\Ap w w' v D e s (n+m) (xs++ys):=by
 obtain⟨i,z,O,i2,i3,i4,i5⟩:=he.get;have hd: ∀D w',(Builtin.append_ #[t,t] ty #[v,u]).run P w= .ok D w'->Do P ⟨d,.call {callee:= .builtin .append,args:= #[x,y],argTypes:= #[t,t]},ty,pos,af,g⟩ ρ w D w':=by
  intro D w' h;unfold Do;simp [execOp,resolve,invoke,builtin,hx,hy,h]
 rcases E.2 with ⟨I,rfl⟩|⟨ua,cap,I,_,_,_,hc⟩
 ·subst I;refine⟨v,w,hd _ _ (run_append_owned_none (P:=P) (w:=w) 0 t ty e i s M O v n xs a),?_,Only.refl _ w,λb hb=> .inl hb⟩;have:ys=[]:=List.eq_nil_of_length_eq_zero (by have:=E.1;omega);subst this;simpa using a
 ·subst I;have R:z.cells.size=s:=by rw [i5];simp [he.len]
  obtain⟨D,w',f,ho,X,_⟩:=run_append_own (P:=P) w 0 t ty e i z s bytes M O i2 i3 i4 R he.pos v n xs a ua m cap ys E.1 (λj u J=>hc j u J) h1 F G (Nat.zero_le _);refine⟨D,w',hd _ _ f,ho,⟨X.os,X.tape,X.output,X.size,λk hk hn=>X.block k hk (λe=>hn (by rw [uK,<-aBn,e]))⟩,?_⟩;intro b' L;rcases a.2 with ⟨rfl,rfl⟩|⟨g,p,Y,rfl,_,ag,_,_,ah,_⟩
  ·obtain⟨v2,_,A,aj,_⟩:=run_append_own (P:=P) w w.heap.size t ty e i z s bytes M O i2 i3 i4 R he.pos (.slice none 0 0) 0 xs ⟨a.1,.inl ⟨rfl,rfl⟩⟩ ua m cap ys E.1 (λj u J=>hc j u J) h1 F G (Nat.le_refl _);rw [f]at A
   cases A
   exact .inr (aCe aj b' (uK.2 L)).1
  ·subst i3 i4
   by_cases B:n+m<=p
   ·have aa:n*i.size+ys.length<=Y.size:=by rw [E.1,ah,<-Nat.add_mul];exact Nat.mul_le_mul_right _ B
    have C:=run_append_room (P:=P) w t ty e i M O g n p Y ag ua m cap ys E.1 (λj u J=>hc j u J) h1 B aa;rw [f]at C
    cases C
    exact .inl L
   ·have holds: ∀j u,xs[j]? =some u->w.cell? ((⟨g,0,none⟩:Addr).add j)=some u:=a.cells (g:=g) rfl;have C:=run_append_grow (P:=P) w t ty e i z M O i2 ⟨g,0,none⟩ n p xs a.1 holds ua m cap ys E.1 (λj u J=>hc j u J) (by omega) (by unfold maxLen at F;omega) (growslice_fits (by omega) G);rw [f]at C
    cases C
    refine .inr ?_;have:b'=w.heap.size:=by simpa [qG,eq_comm]using L
    omega

theorem Do_index1 {cs:List Value}(a:P.underlying t=some (.array n e))(f:aAo P e)(h:Sz P e 1)(p:ev ρ x= .agg cs.toArray)(A:ev ρ y= .int k q)(B:0<=q)(C:q<n)(D:cs[q.toNat]? =some v):
    Do P ⟨d,.index t x y,ty,pos,af,g⟩ ρ w v w:=by
 unfold Do;simp [execOp,Instr.index,p,A,asIntOf,run_underlying a,B,C,bC h,part,wL f,D]
theorem yM {parts:Array (Nat×Operand)}(h:(P.built t (parts.toList.map λp=>(p.1,ev ρ p.2)))=some cs.toArray):Do P ⟨d,.build t parts,ty,pos,af,g⟩ ρ w (.agg cs.toArray) w:=by
 have a:=run_build (P:=P) w t (parts.map λ(i,x)=>(i,ev ρ x)) cs.toArray (by rw [Array.toList_map];exact h);unfold Do;simp [execOp,a]

theorem Do_eqagg {xs ys:Array Value}{r:Bool}(a:P.eqGuardType P.depth t=false)(f:ev ρ x= .agg xs)(p:ev ρ y= .agg ys)(h:(Op.equalIn 10000 t (.agg xs) (.agg ys)).run P w= .ok r w):Do P ⟨d,.binOp .eql t x y u,ty,pos,af,g⟩ ρ w (.bool r) w:=by
 unfold Do;simp [execOp,f,p,run_eqGuard_agg w .eql t x y xs ys a,run_eql_struct,h]
theorem aLc (w:World)(src e:TypeId)(f:P.underlying src=some (.slice e))(h:P.underlying e=some (.int .u8))(p:Option Addr)(c:Nat):
    ∀a,P.underlying a=some .string->(convert src a (.slice p 0 c)).run P w= .ok (.string ByteArray.empty) w:=by
 intro a hd;rw [run_convert_bytes_string w src a e _ 0 c f h hd];cases p<;>simp [Conv.bytesToString,loadCells,loadCellsFrom]
theorem aWp (s1 s2:ByteArray):(s1.toList==s2.toList)=decide (s1=s2):=by
 rw [Bool.eq_iff_iff,beq_iff_eq,decide_eq_true_eq,ByteArray.toList_eq,ByteArray.toList_eq];constructor;intro h;have:=Array.ext' h;cases s1;cases s2;simp at this;rw [this];rintro rfl;rfl
theorem Do_eqlstr {s1 s2:ByteArray}(a:ev ρ x= .string s1)(f:ev ρ y= .string s2):Do P ⟨d,.binOp .eql t x y u,ty,pos,af,g⟩ ρ w (.bool (decide (s1=s2))) w:=by
 unfold Do;simp [execOp,a,f,eqGuard,binOp_string_eql,aWp]
theorem Do_neqstr {s1 s2:ByteArray}(a:ev ρ x= .string s1)(f:ev ρ y= .string s2):Do P ⟨d,.binOp .neq t x y u,ty,pos,af,g⟩ ρ w (.bool (decide (s1≠s2))) w:=by
 unfold Do;simp [execOp,a,f,eqGuard,binOp_string_neq,aWp]
end

theorem aRd {s len:Nat}{zs vs:List Value}(a:0<s)(f: ∀v∈vs,v.cells.size=s)(h:vs.length=len):jC s len zs ((vs.zipIdx 0).map λx=>(x.2,x.1))=some (vs.flatMap λv=>v.cells.toList):=by
 unfold jC;rw [Great.fill_whole a vs _ f (by simp [h])];rfl
theorem one_size {v:Value}(h:v.oneCell'=true):v.cells= #[v]:=by cases v<;>simp_all [Value.cells,Value.oneCell']
theorem Blk.slo {w:World}{b o n c s:Nat}{cs xs:List Value}{T:TypeId}(h:Blk w b cs T)(e:(cs.drop o).take (n*s)=xs)(f:xs.length=n*s)(p:n<=c)(A:c<=maxLen):SlR w (.slice (Option.some (⟨b,o,none⟩:Addr)) n c) s n xs:=by
 refine⟨f,.inr ⟨⟨b,o,none⟩,c,rfl,p,A,λ_=>rfl,?_⟩⟩;intro i v a;rw [Addr.add_none];refine h.cell ?_;rw [<-e,List.getElem?_take]at a;split at a;rwa [List.getElem?_drop]at a;cases a
theorem owns_some {w:World}{B e s n:Nat}{v:Value}{xs:List Value} (h:w.ownsRow B e s v n xs) (D:0<n): ∃b cap a,v= .slice (Option.some (⟨b,0,none⟩:Addr)) n cap/\Blk w b (xs++a) e/\n<=cap/\cap<=maxLen:=by
 rcases h.2 with ⟨_,h⟩|⟨g,cap,a,rfl,_,f,p,A,_,C⟩
 ·omega
 ·refine⟨g,cap,a.toList.drop (n*s),rfl,?_,p,A⟩;unfold Blk;rw [f,<-C,List.take_append_drop]
open Go.ChangeShapes Go.WideShapes Go.ChangeAt
variable {H:Type}{enc:TypeId×Value->H}{P:Program}{w:World}{base:Nat}{sp:Nat->Bool}{held:Bool}{r:Reach}{b0:Nat}{t e:TypeId}{v:Value}{d:DataW H}{ps:List MemPlace}{k:IntKind}
variable {P:Program}{w:World}{ρ:Env}{t e ty:TypeId}{s n m:Nat}{x y:Operand}{xs ys:List Value}{d:Option Nat}{pos:String}{af:Array Edge}{g:Option (Nat×Bool)}
end Go.OB
