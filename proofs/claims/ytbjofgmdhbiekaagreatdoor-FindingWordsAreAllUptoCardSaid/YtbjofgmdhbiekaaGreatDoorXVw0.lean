/- Laws that the claim stands on; no condition beyond those stated. -/
import Derived.Test.YtbjofgmdhbiekaaGreatDoorShW
import Derived.Test.YtbjofgmdhbiekaaGreatDoorSRq
import Derived.Shelf.Small.Wraps
import Derived.Sort.Grow
namespace Go.Proofs.YtbjofgmdhbiekaaGreatDoor
open Go Go.Shelf Go.Proofs Go.RowKit Go.Lib Go.Sort
def orPair (a b:Int):Int:=if a=0 then b else a
set_option maxHeartbeats 1000000 in
theorem orTwo (a b:Int) (g:Nat) (W:World) (h:W.cell? ⟨g,0,none⟩=some (.int .i64 a)) (h1:W.cell? ⟨g,1,none⟩=some (.int .i64 b)):Calls Tryz.prog 42 #[.slice (some ⟨g,0,none⟩) 2 2] W λe w'=>e= .returned (.int .i64 (orPair a b))/\w'=W:=by
 by_cases c:a=0
 ·have e:orPair a b=b:=if_pos c;rw [e];have c:(a !=0)=false:=by simp [c]
  by_cases d:b=0
  ·have f:(b !=0)=false:=by simp [d]
   go_enter Tryz.func42,Tryz.ntmps42
   go_wp2
   refine wp_loop_rounds 3 ?_;rw [rounds_succ]
   go_wp2
   rw [rounds_succ]
   go_wp2
   rw [rounds_succ]
   go_wp2
   all_goals first |(go_ret;exact⟨by first |rfl|(rw [d];rfl),rfl⟩)|(exfalso;simp_all)
  ·have f:(b !=0)=true:=by simp [d]
   go_enter Tryz.func42,Tryz.ntmps42
   go_wp2
   refine wp_loop_rounds 2 ?_;rw [rounds_succ]
   go_wp2
   rw [rounds_succ]
   go_wp2
   all_goals first |(go_ret;exact⟨rfl,rfl⟩)|(exfalso;simp_all)
 ·have e:orPair a b=a:=if_neg c;rw [e];have c:(a !=0)=true:=by simp [c]
  go_enter Tryz.func42,Tryz.ntmps42
  go_wp2
  refine wp_loop_rounds 1 ?_;rw [rounds_succ]
  go_wp2
  all_goals first |(go_ret;exact⟨rfl,rfl⟩)|(exfalso;simp_all)
theorem aEt (W:World)(x y:Value)(T:TypeId)(B:Obj)(n:Nat)(os:Array Obj):(grow (((W.alloc (Obj.cells #[x,y] T)).alloc B).drewN n) os).cell? ⟨W.heap.size,0,none⟩=some x/\(grow (((W.alloc (Obj.cells #[x,y] T)).alloc B).drewN n) os).cell? ⟨W.heap.size,1,none⟩=some y:=by
 have h:(grow (((W.alloc (Obj.cells #[x,y] T)).alloc B).drewN n) os).heap[W.heap.size]? =some (Obj.cells #[x,y] T):=by
  show((W.heap.push _).push _++os)[W.heap.size]? =_;rw [Array.getElem?_append_left (by simp;omega),Array.getElem?_push_lt (by simp)];simp
 constructor<;> · unfold World.cell?;rw [h];rfl
theorem cellB (W:World)(x y:Value)(T:TypeId)(A:Obj)(n:Nat)(os:Array Obj):(grow (((W.alloc A).alloc (Obj.cells #[x,y] T)).drewN n) os).cell? ⟨W.heap.size+1,0,none⟩=some x/\(grow (((W.alloc A).alloc (Obj.cells #[x,y] T)).drewN n) os).cell? ⟨W.heap.size+1,1,none⟩=some y:=by
 have h:(grow (((W.alloc A).alloc (Obj.cells #[x,y] T)).drewN n) os).heap[W.heap.size+1]? =some (Obj.cells #[x,y] T):=by
  show((W.heap.push _).push _++os)[W.heap.size+1]? =_;rw [Array.getElem?_append_left (by simp),Array.getElem?_push,if_pos (by simp)]
 constructor<;> · unfold World.cell?;rw [h];rfl
theorem cellC (W:World)(x y:Value)(T:TypeId):(W.alloc (Obj.cells #[x,y] T)).cell? ⟨W.heap.size,0,none⟩=some x/\(W.alloc (Obj.cells #[x,y] T)).cell? ⟨W.heap.size,1,none⟩=some y:=by
 have h:(W.alloc (Obj.cells #[x,y] T)).heap[W.heap.size]? =some (Obj.cells #[x,y] T):=by
  show(W.heap.push _)[W.heap.size]? =_;simp
 constructor<;> · unfold World.cell?;rw [h];rfl
set_option maxHeartbeats 1000000 in
theorem cmpWhere (a b c d:Int)(W:World):Calls Tryz.prog 62 #[.agg #[.int .i64 a,.int .i64 b],.agg #[.int .i64 c,.int .i64 d]] W λe w'=>e= .returned (.int .i64 (orPair (compareInt a c) (compareInt b d)))/\ ∃q f,w'=grow (W.drewN q) f:=by
 have h1: ∀g,Calls Tryz.prog 44 #[.int .i64 a,.int .i64 c] g λe w'=>e= .returned (.int .i64 (compareInt a c))/\w'=g:=λg=>Any.cmp_Compare_int aMv a c g
 have j: ∀g,Calls Tryz.prog 44 #[.int .i64 b,.int .i64 d] g λe w'=>e= .returned (.int .i64 (compareInt b d))/\w'=g:=λg=>Any.cmp_Compare_int aMv b d g
 generalize compareInt a c=r1 at h1⊢;generalize compareInt b d=r2 at j⊢
 go_enter Tryz.func62,Tryz.ntmps62
 go_wp2
 have o:=λn os=>(aEt W (.int .i64 a) (.int .i64 b) 98 (Obj.cells #[.int .i64 c,.int .i64 d] 98) n os).1
 have a2:=λn os=>(aEt W (.int .i64 a) (.int .i64 b) 98 (Obj.cells #[.int .i64 c,.int .i64 d] 98) n os).2
 have p:=λn os=>(cellB W (.int .i64 c) (.int .i64 d) 98 (Obj.cells #[.int .i64 a,.int .i64 b] 98) n os).1
 have r:=λn os=>(cellB W (.int .i64 c) (.int .i64 d) 98 (Obj.cells #[.int .i64 a,.int .i64 b] 98) n os).2
 generalize hW0:(W.alloc (Obj.cells #[.int .i64 a,.int .i64 b] 98)).alloc (Obj.cells #[.int .i64 c,.int .i64 d] 98)=W0 at o a2 p r⊢;have g1: ∀n os,Calls Tryz.prog 44 #[.int .i64 a,.int .i64 c] (grow (W0.drewN n) os) λe w'=>e= .returned (.int .i64 r1)/\ ∃q f,w'=grow ((grow (W0.drewN n) os).drewN q) f:=
  λn os=>(h1 _).mono λe w' ⟨k,l⟩=>⟨k,0,#[],by rw [l,grow_empty];rfl⟩
 have g2: ∀n os,Calls Tryz.prog 44 #[.int .i64 b,.int .i64 d] (grow (W0.drewN n) os) λe w'=>e= .returned (.int .i64 r2)/\ ∃q f,w'=grow ((grow (W0.drewN n) os).drewN q) f:=
  λn os=>(j _).mono λe w' ⟨k,l⟩=>⟨k,0,#[],by rw [l,grow_empty];rfl⟩
 clear h1 j;refine aQc 10 #[true,true,true,true,true,true,true,true,true,true,false,false,false] (by kernel_rfl) (by kernel_rfl) (by kernel_rfl) (by kernel_rfl) (by kernel_rfl) ?_;simp only [List.take_succ_cons,List.take_zero]
 repeat (quiet_step (first |(go_at_call_of 44 (Value.int IntKind.i64 a);refine Calls.grown_of (g1 _ _))|(go_at_call_of 44 (Value.int IntKind.i64 b);refine Calls.grown_of (g2 _ _))))
 refine wpQuiet_nil ?_;rintro _ ⟨⟨n,os⟩,rfl⟩;clear o a2 p r g1 g2;refine wpAny_ready (rs:=[10]) (by kernel_rfl) (List.cons_ne_nil _ _) ?_;refine AllReady.cons rfl (λK h=>?_) AllReady.nil
 go_simp
 refine h _ _ ?_;clear h K;refine wpAny_ready (rs:=[11]) (by kernel_rfl) (List.cons_ne_nil _ _) ?_;refine AllReady.cons rfl (λK h=>?_) AllReady.nil
 go_simp
 have m:(grow (W0.drewN n) os).heap.size=W0.heap.size+os.size:=by
  show(W0.heap++os).size=_;exact Array.size_append
 have i:=cellC (grow (W0.drewN n) os) (.int .i64 r1) (.int .i64 r2) 3;rw [m]at i;refine(orTwo r1 r2 _ _ i.1 i.2).mono ?_;rintro e w' ⟨rfl,rfl⟩;refine h _ _ ?_;clear h K i;refine wpAny_ready (rs:=[12]) (by kernel_rfl) (List.cons_ne_nil _ _) ?_;refine AllReady.cons rfl (λK h=>?_) AllReady.nil
 go_simp
 refine h _ _ ?_;clear h K;refine wpAny_done (by kernel_rfl) ?_ _
 go_wp2
 go_ret
 refine⟨rfl,n,#[Obj.cells #[.int .i64 a,.int .i64 b] 98]++ #[Obj.cells #[.int .i64 c,.int .i64 d] 98]++os++ #[Obj.cells #[.int .i64 r1,.int .i64 r2] 3],?_⟩;rw [<-hW0,alloc_eq_grow,alloc_eq_grow,alloc_eq_grow,<-grow_grow,<-grow_grow,<-grow_grow];rfl
end Go.Proofs.YtbjofgmdhbiekaaGreatDoor
