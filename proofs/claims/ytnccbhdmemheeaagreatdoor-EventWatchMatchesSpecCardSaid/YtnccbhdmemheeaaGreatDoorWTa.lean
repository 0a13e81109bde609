/- Laws that the claim stands on; no condition beyond those stated. -/
import Derived.Test.YtnccbhdmemheeaaGreatDoorNTa
namespace Go.Lf
def stF (s:Int×Int×Int)(x:fD):Int×Int×Int:=
 if x.Known=true then(s.1+1,min (if s.1=0 then x.N else s.2.1) x.N,max (if s.1=0 then x.N else s.2.2) x.N)else s
def stA (l:List fD):Int×Int×Int:=l.foldl stF (0,0,0)
def stT (n fr:Int)(l:List fD):Int:=if n<IntKind.i64.wrap ((stA l).2.2-(stA l).2.1)then 1 else if (stA l).1=fr then 2 else 0
theorem aTq (l:List fD)(x:fD):stA (l++[x])=stF (stA l) x:=by unfold stA;rw [List.foldl_append];rfl
theorem stF_cnt (s:Int×Int×Int)(x:fD):s.1<=(stF s x).1/\(stF s x).1<=s.1+1:=by
 unfold stF;split;exact⟨by show s.1<=s.1+1;omega,Int.le_refl _⟩;omega
theorem aQg: ∀(l:List fD) (s:Int×Int×Int),s.1<=(l.foldl stF s).1/\(l.foldl stF s).1<=s.1+l.length
 | [],s=>by simp
 |x::l,s=>by
  have h:=aQg l (stF s x);have a:=stF_cnt s x;rw [List.foldl_cons,List.length_cons];omega
theorem aTw (l:List fD) (j:l.length<=2000000):Fbp l (l.length:Int) (0,0,0,0)=some (stA l):=by
 suffices q: ∃r,Fbp l (l.length:Int) (0,0,0,0)=some r/\r=stA l by
  obtain⟨r,h,rfl⟩:=q;exact h
 unfold Fbp;refine aV (β:=Int×Int×Int) (λi (s:Int×Int×Int)=>(s.1,s.2.1,s.2.2,(i:Int))) l (λi s=>s=stA (l.take i)) (λr=>r=stA l) (by omega) (λk i s x d hi a=>?_) (λk s a=>?_) (0,0,0) rfl
 ·refine⟨stF s x,by rw [List.take_add_one,d,a];exact(aTq _ _).symm,?_⟩;have e:=aQg (l.take i) (0,0,0);have b:0<=s.1/\s.1<=l.length:=by
   rw [a];unfold stA;have:((l.take i).length:Int)<=l.length:=by rw [List.length_take];omega
   simp only at e;omega
  clear a e;obtain⟨s1,s2,f⟩:=s;simp only [zI,xE];rw [if_pos (by omega),yR d,fQ hi (by omega)];simp only [gB];unfold stF
  cases x.Known
  ·rfl
  ·have w:IntKind.i64.wrap (s1+1)=s1+1:=Go.OB.wrap_i64 (by simp only at b;omega) (by simp only at b;omega)
   by_cases c:s1=0
   ·subst c;rfl
   ·simp only [c,gQ,if_false,if_true,Bool.not_true,w]
 ·refine⟨stA l,?_,rfl⟩;rw [List.take_length]at a;obtain⟨s1,s2,f⟩:=s;simp only [zI,xE];rw [if_neg (by omega),<-a]
theorem steady_eq {m:gU}{tr n fr:Int}{last:List fD}{x:fD}(c:at' m.told tr=some x)(i:1<=fr/\fr<=1000000)(j:(last.length:Int)<fr):
  Fa1 (dH.mk tr n fr last) m=some (stT n fr (last++[x]),dH.mk tr n fr ((last++[x]).drop (last.length+2-fr.toNat))):=by
 unfold Fa1;show gB (at' m.told tr) _=_;rw [c];have b:=aTw (last++[x]) (by simp;omega);have a:((last++[x]).length:Int)=last.length+1:=by simp
 have d:IntKind.i64.wrap (((last++[x]).length:Int)-fr)=(last.length:Int)+1-fr:=by rw [a];exact Go.OB.wrap_i64 (by omega) (by omega)
 have e:IntKind.i64.wrap ((last.length:Int)+1-fr+1)=(last.length:Int)+1-fr+1:=Go.OB.wrap_i64 (by omega) (by omega);have f:sub' (last++[x]) (max 0 ((last.length:Int)+1-fr+1)) ((last++[x]).length:Int)=some ((last++[x]).drop (last.length+2-fr.toNat)):=by
  unfold sub';rw [if_pos ⟨by omega,by omega,by omega⟩]
  congr 1
  rw [show(max 0 ((last.length:Int)+1-fr+1)).toNat=last.length+2-fr.toNat by omega];rw [List.take_of_length_le];rw [List.length_drop];omega
 obtain⟨y,h⟩: ∃y,y=stA (last++[x]):=⟨_,rfl⟩;unfold stT;rw [<-h]at b⊢;obtain⟨g1,g2,g3⟩:=y;simp only [gB,zI,aXc (l:=last) (x:=x) (by omega),b,d,e,f,xE];split
 ·rfl
 ·split<;>rfl
theorem aYr {m:gU}{tr n fr:Int}{last:List fD}(b:0<=tr/\tr<m.told.length)(c:1<=fr/\fr<=1000000)(d:(last.length:Int)<fr):
    ∃x,at' m.told tr=some x/\aDn m tr n fr last=(stT n fr (last++[x]),(last++[x]).drop (last.length+2-fr.toNat)):=by
 obtain⟨x,a⟩:=wK b;refine⟨x,a,?_⟩;unfold aDn;rw [steady_eq a c d];rfl
theorem numT_told {m m':gU}(h:m.told=m'.told)(tr op n:Int):aQp m tr op n=aQp m' tr op n:=by
 obtain⟨a,_,_⟩:=m;obtain⟨a',_,_⟩:=m';obtain rfl:a=a':=h;rfl
theorem aYt {m m':gU}(h:m.told=m'.told)(a b da db op:Int):pairT m a b da db op=pairT m' a b da db op:=by
 obtain⟨x,_,_⟩:=m;obtain⟨d,_,_⟩:=m';obtain rfl:x=d:=h;rfl
def runT (f:Nat->List fD)(w:gY):Nat->List (List Int)×gY
 |0=>([],w)
 |n+1=>((runT f w n).1++[(nxt (f n) (runT f w n).2).1],(nxt (f n) (runT f w n).2).2)
theorem aAz {f:Nat->List fD}{w:gY}{T P:Nat}(a:WfW w T P)(b: ∀k,(f k).length=T): ∀n,WfW (runT f w n).2 T P
 |0=>a
 |n+1=>(aSq (aAz a b n) (b n)).2.1
theorem aQa (told:List fD)(w:gY):(nxt told w).2.rules=(rst told (tV told w) [] w.rules).map Prod.snd:=rfl
theorem aKi (told:List fD)(w:gY):(nxt told w).1=(rst told (tV told w) [] w.rules).map Prod.fst:=rfl
theorem bAd {told:List fD}{w:gY}{i:Nat}{k:Nd}(h:w.rules[i]? =some k):
    (nxt told w).1[i]? =some (stp (gU.mk told (tV told w) ((nxt told w).1.take i)) k).1/\(nxt told w).2.rules[i]? =some (stp (gU.mk told (tV told w) ((nxt told w).1.take i)) k).2:=by
 have q:=aJa (told:=told) (ps:=tV told w) w.rules [] i k h;rw [List.nil_append]at q;rw [aQa,aKi,List.getElem?_map,List.getElem?_map,q,<-List.map_take];exact⟨rfl,rfl⟩
theorem aGl (told:List fD)(w:gY):(nxt told w).1.length=w.rules.length/\(nxt told w).2.rules.length=w.rules.length:=by
 rw [aQa,aKi,List.length_map,List.length_map,aAw];exact⟨rfl,rfl⟩
theorem at_take {b:Type}{l:List b}{i:Nat}{r:Int}(a:0<=r)(c:r<i):at' (l.take i) r=at' l r:=by
 unfold at';rw [if_pos a,if_pos a,List.getElem?_take,if_pos (by omega)]
end Go.Lf
