/- Walks: what each function computes, for every argument; no condition but those that stand in the statements. -/
import Derived.Test.YthllgjnlmjpinaaGreatDoorLfS
namespace Go.Lf
open Go.RowKit Go.OB
section ff
variable {α β:Type}
end ff
section hd
variable {P:Program} {ρ:Env} {w w0 w1 w':World} {d:Option Tmp} {x y z:Operand} {t u ty e:TypeId} {pos:String} {af:Array Edge} {g:Option (Nat×Bool)}
variable {v:Value} {b o i n c s m:Nat} {k k':IntKind} {cs xs vs:List Value} {bs:List Nat} {T:TypeId} {O O' S M:List Nat} {l l2:List Th} {α β:Type} {r:Rp α} {R:Rt α} {D:Hol} {xl yl zl:List α} {a:α} {j q:Int} {F:Nat→Prop}
theorem set_same {x:α}{l:List α}(h:at' l j=some x):set' l j x=some l:=by
 obtain ⟨h0,h1,h2⟩:=zL h;unfold set';rw [if_pos ⟨h0,h1⟩];congr 1;apply List.ext_getElem?;intro i;rw [List.getElem?_set];split;rename_i e; subst e; rw [if_pos (by omega),h2];rfl
theorem Hd.holeV (H:Hd O w0 w S l)(i:Nat){c:List Value}{f cap:Nat}(hi:l[i]? =some (.tr (Rt.row R e D) [v] bs xl))(hv:v= .slice (some ⟨b,o,none⟩) xl.length cap)(hx:at' xl j=some a)(hf:j.toNat=f)(hD:D.lookup f=some c):Cells w ⟨b,o+j.toNat * R.sz,none⟩ c:=by
 subst hv hf;obtain ⟨h0,h1,-⟩:=zL hx;exact H.hole i hi hD (by omega)
theorem aHz {c vs:List Value}{f off cap mm:Nat}{u':Value}(H:Hd O w0 w S l)(i:Nat)(hi:l[i]? =some (.tr (Rt.row R e ((f,c) :: D)) [v] bs xl))(hv:v= .slice (some ⟨b,o,none⟩) xl.length cap)(hat:at' xl j=some a)(hf:j.toNat=f)(hx:ev ρ x= .pointer (some ⟨b,o+j.toNat * R.sz+off,none⟩))
    (hs:Sz P t mm)(hm:vs.length=mm)(hy:ev ρ y=u')(hyc:u'.cells=vs.toArray)(h1: ∀v ∈ vs,v.oneCell'=true)(hfit:off+mm≤R.sz):
    ∃w',DoU P ⟨none,.store t x y,ty,pos,af,g⟩ ρ w w'∧Hd O w0 w' S (l.set i (.tr (Rt.row R e ((f,splice c off vs) :: D)) [v] bs xl)):=by
 subst hv hf;obtain ⟨h0,h2,-⟩:=zL hat;exact aIz H i hi (by omega) hx hs hm hy hyc h1 hfit
theorem aW (h:(Rt.row R e D).rd F w [v] bs xl)(hx:at' xl j=some a): ∃b o cap,v= .slice (some ⟨b,o,none⟩) xl.length cap:=by
 obtain ⟨h0,hl,-⟩:=zL hx;obtain ⟨v1,ys,b1,hv1,hb1,r1,r2⟩:=h;obtain rfl:v=v1:=by simpa using hv1
 obtain ⟨b,o,cap,rfl,-⟩:=r2.slr.some (by omega);exact ⟨b,o,cap,rfl⟩
theorem Lx_bsT {len bytes : Nat} {zs : List Value} {bx : List Nat} {parts : Array (Nat × Operand)} (hu : P.underlying t = some (.slice e)) (he : El P e R.sz bytes zs) (hsmall : len * R.sz ≤ 16777216) (hpos : 0 < len * R.sz) (hln : xl.length = len)
    (hf : rQ R.sz len zs (parts.toList.map fun p => (p.1, ev ρ p.2)) = some cs) (H : Hd O w0 w S l) (idx : List Nat) (hn : idx.Nodup) (hb : bx.Perm (bks (Go.Lf.pick idx l))) (hr : kM R (frees O l) w [] 0 cs bx xl) :
    ∃ v w', Do P ⟨d, .buildSlice t len parts, ty, pos, af, g⟩ ρ w v w' ∧ ∃ b3, Hd O w0 w' S (rest idx l ++ [.tr (Rt.row R e []) [v] b3 xl]) := by
  obtain ⟨v, w', h1, b, rfl, hA⟩ := Ex_bs (P := P) (ρ := ρ) (w := w) (d := d) (ty := ty) (pos := pos) (af := af) (g := g) hu he hsmall hpos hf
  have hlt : ∀ c ∈ bx, c < w.heap.size := fun c hc => H.lt (xZ (hb.mem_iff.1 hc))
  refine ⟨_, w', h1, b :: bx, H.turnN idx _ [] hA.only (by simp) (fun c hc => ?_) ?_ (fun hs x hx => ?_)⟩
  · have hc : c ∈ b :: bx := by simpa [bks, Th.blocks] using hc
    rcases List.mem_cons.1 hc with e | h
    · subst e; exact ⟨.inr (Nat.le_of_eq hA.at_.symm), by rw [hA.size, hA.at_]; omega⟩
    · exact ⟨.inl (hb.mem_iff.1 h), Nat.lt_of_lt_of_le (hlt c h) (by rw [hA.size]; omega)⟩
  · have : (b :: bx).Nodup := List.nodup_cons.2 ⟨fun h => by have := hlt b h; rw [hA.at_] at this; omega, hb.nodup_iff.2 (H.pick_nd hn)⟩
    simpa [bks, Th.blocks] using this
  · obtain rfl := List.mem_singleton.1 hx
    have hlen := aJf hr
    subst hln
    refine ⟨_, cs, bx, rfl, rfl, qY hs (fun c hc => hA.only.block c (hlt c hc) (by simp)) hr, hlen, .inr ⟨b, 0, xl.length, cs, rfl, hA.blk, Nat.le_refl _, ?_, by rw [hlen]; omega, by rw [List.drop_zero, List.take_of_length_le (by omega)]⟩⟩
    rw [maxLen_eq]
    have h0 : R.sz ≠ 0 := by intro h; rw [h] at hpos; simp at hpos
    have : xl.length ≤ xl.length * R.sz := Nat.le_mul_of_pos_right _ (by omega)
    omega
theorem aGe {kl:IntKind}{lo:Int}{lo':Operand}(H:Hd O w0 w S l)(i:Nat)(hi:l[i]? =some (.tr (Rt.row (Rt.of r) e []) [v] bs xl))(hu:P.underlying t=some (.slice e))(hz:Sz P e r.sz)(hx:ev ρ x=v)(hl:ev ρ lo'= .int kl lo)(hs:sub' xl lo (xl.length:Int)=some yl):
    ∃v',(∀w',Do P ⟨d,.slice t x (some lo') none none,ty,pos,af,g⟩ ρ w' v' w')∧Hd O w0 w S (l.set i (.tr (Rt.row (Rt.of r) e []) [v'] bs yl)):=by
 obtain ⟨a,c,e1,h0,h1,h2,h3,h4⟩:=rowF_part H i hi hs;refine ⟨_,fun w'=>aQg hu hz (hx.trans e1) hl h0 (by omega),?_⟩;simpa using h4
def Rt.Fr {α:Type}(R:Rt α)(r:Rp α):Prop:=R.sz=r.sz∧ ∀F F' w cs bs x,(∀b,F b→F' b)→(∀b ∈ bs,F' b∧b<w.heap.size)→R.rd F w cs bs x→r.rd F' w cs x
theorem aSu {r:Rp α}:(Rt.of r).Fr r:=⟨rfl,fun F F' w cs bs x h1 _ h=>r.mono (fun b hb _=>⟨h1 b hb,rfl⟩) h.2⟩
theorem aLc {a:Rt α}{b:Rt β}{a':Rp α}{b':Rp β}(ha:a.Fr a')(hb:b.Fr b'):(Rt.pair a b).Fr (Rp.pair a' b'):=
  ⟨by show a.sz+b.sz=a'.sz+b'.sz; rw [ha.1,hb.1],fun F F' w cs bs x h1 h2 ⟨c,d,b1,b2,e,e2,q1,q2⟩=>⟨c,d,e,ha.2 F F' w c b1 _ h1 (fun b hb=>h2 b (by rw [e2]; exact List.mem_append_left _ hb)) q1,hb.2 F F' w d b2 _ h1 (fun b hb=>h2 b (by rw [e2]; exact List.mem_append_right _ hb)) q2⟩⟩
theorem fr_iso {a:Rt α}{a':Rp α}{f:β→α}(ha:a.Fr a'):(Rt.iso a f).Fr (Rp.iso a' f):=⟨ha.1,fun F F' w cs bs _ h1 h2 h=>ha.2 F F' w cs bs _ h1 h2 h⟩
theorem aPd {r:Rp α}(hr:R.Fr r){F F':Nat→Prop}(h1: ∀b,F b→F' b): ∀{l:List α} {i:Nat} {cs:List Value} {bs:List Nat},(∀b ∈ bs,F' b∧b<w.heap.size)→kM R F w [] i cs bs l→rows r F' w cs l
  | [],_,_,_,_,h=>h.1
  | _ :: _,_,_,_,hb,⟨c,d,b1,b2,e,e2,q1,q2⟩=>⟨c,d,e,hr.2 F F' w c b1 _ h1 (fun b h=>hb b (by rw [e2]; exact List.mem_append_left _ h)) q1,aPd hr h1 (fun b h=>hb b (by rw [e2]; exact List.mem_append_right _ h)) q2⟩
theorem fr_row {r:Rp α}(hr:R.Fr r):(Rt.row R e []).Fr (Rp.sl r):=⟨rfl,fun F F' w cs bs x h1 h2 ⟨v,xs,b1,e1,e2,q1,q2⟩=>
  ⟨v,e1,xs,aPd hr h1 (fun b h=>h2 b (by rw [e2]; exact List.mem_append_right _ h)) q1,by rw [← hr.1]; exact q2.slr,fun _ b hb=>h2 b (by rw [e2]; exact List.mem_append_left _ (kK.2 hb))⟩⟩
theorem Hd.freezeT {r:Rp α}(hr:R.Fr r)(H:Hd O w0 w S l)(i:Nat)(hi:l[i]? =some (.tr (Rt.row R e []) [v] bs xl)):Hd O w0 w S (l.set i (.fz (.sl r v xl))):=by
  refine H.turn hi (Only.refl _ w) (fun hs=>?_) (by simp [Th.blocks]) (by simp [Th.blocks])
  have hm:=List.mem_of_getElem? hi
  obtain ⟨u,e1,h⟩:=(fr_row (e:=e) hr).2 (frees O l) (frees O (l.set i (.fz (.sl r v xl)))) w [v] bs xl (fun b hb=>⟨hb.1,fun h=>by
      rcases wV h with h | ⟨j,x,hj,hx,hbx⟩
      · simp [Th.blocks] at h
      · exact hb.2 (dQ.2 ⟨x,List.mem_of_getElem? hx,hbx⟩)⟩) (fun b hb=>⟨⟨H.notO hm hb,fun h=>by
      rcases wV h with h | ⟨j,x,hj,hx,hbx⟩
      · simp [Th.blocks] at h
      · exact H.apart hx hi hj b hbx hb⟩,(H.own _ hm b hb).2⟩) (H.item hi)
  obtain rfl:v=u:=by simpa using e1
  exact h
end hd
end Go.Lf
namespace Go.Lf
open Go.RowKit Go.OB
def pR (P:Program)(name:String)(recv:Value)(f:FuncId)(r:Value):Prop:= ∀(w:World) (args:Array Value),(callMethod recv name args).run P w= .ok (.enter f (#[r]++args)) w
theorem pR.eq {P:Program}{name:String}{recv:Value}{f f':FuncId}{r r':Value}(h:pR P name recv f r)(h':pR P name recv f' r')(w:World):f=f'∧r=r':=by
 have q:=(h w #[]).symm.trans (h' w #[]);simp at q;exact q
def methB (P:Program)(t:TypeId)(name:String)(f:FuncId)(p:Bool):Bool:=
  match P.info? t with
  | some i=>match i.methods.find? (fun m=>m.name==name) with
    | some m=>m.path.isEmpty && (match m.func with | some (g,q)=>g==f && q==p | none=>false)
    | none=>false
  | none=>false
def ptrB (P:Program)(t:TypeId)(p:Bool):Bool:=
  match P.underlying t with
  | some (.pointer _)=>p
  | some (.interface _)=>false
  | some _=> !p
  | none=>false
theorem bH {P:Program}{t:TypeId}{name:String}{f:FuncId}{p:Bool}{v:Value}(h:methB P t name f p=true)(hp:ptrB P t p=true)(en:Enters P f):pR P name (.iface t v) f v:=by
  intro w args
  obtain ⟨fn,h1,h2,h3⟩:=en
  have h2': ¬fn.body=none:=by cases hb:fn.body<;>simp_all
  have h3': ¬fn.name= "runtime.NumGoroutine" :=by simpa using h3
  have hc: ∀as:Array Value,(callFunc f as).run P w= .ok (.enter f as) w:=by
    intro as
    simp [callFunc,Sem.run,h1,h2',h3',program]
  unfold methB at h
  cases hi:P.info? t with
  | none=>rw [hi] at h; cases h
  | some i=>
    rw [hi] at h
    cases hm:i.methods.find? (fun m=>m.name==name) with
    | none=>simp only [hm] at h; cases h
    | some m=>
      simp only [hm] at h
      obtain ⟨hpath,hf⟩:=(Bool.and_eq_true _ _ ▸ h:m.path.isEmpty=true∧_)
      have hpath':m.path= #[]:=by simpa using hpath
      cases hmf:m.func with
      | none=>simp only [hmf] at hf; cases hf
      | some gq=>
        obtain ⟨g,q⟩:=gq
        simp only [hmf,Bool.and_eq_true,beq_iff_eq] at hf
        obtain ⟨rfl,rfl⟩:=hf
        obtain ⟨n,hn⟩: ∃n,P.types.size+Made.depth=n+1:=⟨P.types.size+(Made.depth - 1),by unfold Made.depth; omega⟩
        have hr:(receiverAt t (.val v) q (if m.path.isEmpty then some ((name.splitOn ".").getLastD name) else none)).run P w= .ok v w:=by
          unfold ptrB at hp
          cases hu:P.underlying t with
          | none=>rw [hu] at hp; cases hp
          | some d=>
            rw [hu] at hp
            cases d<;>simp_all [receiverAt,run_underlying hu,Place.get]
        have hmeth:(method (n+1) t v name).run P w= .ok (g,v) w:=by
          simp only [method,typeInfo,Sem.run_bind]
          simp [hi,hm,hpath',follow,hmf]
          simp [hpath'] at hr
          simp [hr]
        unfold callMethod
        simp [hn,hmeth,hc]
section ops
variable {P:Program} {ρ:Env} {w w0 w1 w':World} {d:Option Tmp} {x y z:Operand} {t u ty e:TypeId} {pos:String} {af:Array Edge} {g:Option (Nat×Bool)}
variable {v:Value} {b o i n c s m:Nat} {k k':IntKind} {cs xs vs:List Value} {bs:List Nat} {T:TypeId} {O O' S M:List Nat} {l l2:List Th} {α β:Type} {r:Rp α} {R:Rt α} {D:Hol} {xl yl zl:List α} {a:α} {j q:Int} {F:Nat→Prop}
theorem pX {f:FuncId}{rv recv:Value}{name:String}{ro:Operand}{args:Array Operand}{at_:Array TypeId}(hm:pR P name recv f rv)(hr:ev ρ ro=recv)(ha:args.toList.map (ev ρ)=vs):
    DoC P ⟨d,.call {callee:= .invoke ro name,args:=args,argTypes:=at_},ty,pos,af,g⟩ ρ w f (rv :: vs).toArray:=by
 have h1:=hm w (args.map (ev ρ));have e1:args.map (ev ρ)=vs.toArray:=by rw [← ha]; apply Array.ext'; simp
 unfold DoC;have e2:(#[rv]++vs.toArray:Array Value)=(rv :: vs).toArray:=by simp
 rw [e1,e2] at h1;simp [execOp,resolve,invoke,hr,e1,h1]
def mkiB (P:Program)(t:TypeId):Bool:=match P.underlying t with | some (.interface _)=>false | some _=>true | none=>false
theorem mX (h:mkiB P t=true)(hx:ev ρ x=v):Do P ⟨d,.makeInterface t x,ty,pos,af,g⟩ ρ w (.iface t v) w:=by
  unfold mkiB at h
  cases hu:P.underlying t with
  | none=>rw [hu] at h; cases h
  | some dd=>
    rw [hu] at h
    unfold Do
    cases dd<;>simp_all [execOp,Instr.makeInterface,run_underlying hu]
theorem row_n {n c:Nat}{a:Option Addr}(h:(Rt.row R e D).rd F w [.slice a n c] bs xl):n=xl.length:=by
 obtain ⟨a',c',h1⟩:=jJ h;cases h1; rfl
theorem Hd.focusV {cap:Nat}(H:Hd O w0 w S l)(i:Nat)(hi:l[i]? =some (.tr (Rt.row R e D) [v] bs xl))(hv:v= .slice (some ⟨b,o,none⟩) n cap)(hx:at' xl j=some a)(hD:D.lookup j.toNat=none):
    ∃c b1 b2,Hd O w0 w S (rest [i] l++ [.tr (Rt.row R e ((j.toNat,c) :: D)) [v] b1 xl,.tr R c b2 a]):=by
  obtain ⟨b',o',cap',c,b1,b2,e1,h1,h2⟩:=H.focus i hi hx hD
  exact ⟨c,b1,b2,h2⟩
theorem Hd.holeW {c:List Value}{f cap:Nat}(H:Hd O w0 w S l)(i:Nat)(hi:l[i]? =some (.tr (Rt.row R e D) [v] bs xl))(hv:v= .slice (some ⟨b,o,none⟩) n cap)(hx:at' xl j=some a)(hf:j.toNat=f)(hD:D.lookup f=some c):Cells w ⟨b,o+j.toNat * R.sz,none⟩ c:=by
 subst hv;obtain rfl:=row_n (H.item hi);exact H.holeV i hi rfl hx hf hD
theorem nC {c vs:List Value}{f off cap mm:Nat}{u':Value}(H:Hd O w0 w S l)(i:Nat)(hi:l[i]? =some (.tr (Rt.row R e ((f,c) :: D)) [v] bs xl))(hv:v= .slice (some ⟨b,o,none⟩) n cap)(hat:at' xl j=some a)(hf:j.toNat=f)(hx:ev ρ x= .pointer (some ⟨b,o+j.toNat * R.sz+off,none⟩))
    (hs:Sz P t mm)(hm:vs.length=mm)(hy:ev ρ y=u')(hyc:u'.cells=vs.toArray)(h1: ∀v ∈ vs,v.oneCell'=true)(hfit:off+mm≤R.sz):
    ∃w',DoU P ⟨none,.store t x y,ty,pos,af,g⟩ ρ w w'∧Hd O w0 w' S (l.set i (.tr (Rt.row R e ((f,splice c off vs) :: D)) [v] bs xl)):=by
 subst hv;obtain rfl:=row_n (H.item hi);exact aHz H i hi rfl hat hf hx hs hm hy hyc h1 hfit
theorem Hd.addF (H:Hd O w0 w S l)(h:r.rd (frees O l) w cs a):Hd O w0 w S (l++ [.tr (Rt.of r) cs [] a]):=
  H.add (Only.refl [] w) (fun hs=>⟨rfl,r.mono hs h⟩) (by simp [Th.blocks]) (by simp [Th.blocks])
theorem trF {F:Nat→Prop}(h:(Th.tr (Rt.of r) cs bs a).holds F w):bs= []∧r.rd F w cs a:=h
theorem sH {F:Nat→Prop}(h:(Th.tr R [v] bs a).holds F w):v.oneCell'=true:=R.one h v (by simp)
theorem qB {F:Nat→Prop}(hz:R.sz=1)(h:(Th.tr R cs bs a).holds F w): ∃v,cs= [v]:=by
  have:=R.len h
  rw [hz] at this
  match cs,this with
  | [v],_=>exact ⟨v,rfl⟩
theorem Hd.unfocus0 {c:List Value}{b1 b2:List Nat}{f:Nat}(H:Hd O w0 w S l)(i k:Nat)(hi:l[i]? =some (.tr (Rt.row R e ((f,c) :: D)) [v] b1 xl))(hk:l[k]? =some (.tr R c b2 a))(hik:i≠k)(hf:j.toNat=f)(hD:D.lookup f=none)(hx:at' xl j=some a):
    ∃b3,Hd O w0 w S (rest [i,k] l++ [.tr (Rt.row R e D) [v] b3 xl]):=
  H.unfocus i k hi hk hik hf hD (set_same hx)
theorem aFi {bytes:Nat}{zs:List Value}{parts:Array (Nat×Operand)}(H:Hd O w0 w S l)(i:Nat)(hi:l[i]? =some (.tr R cs bs a))(hu:P.underlying t=some (.slice e))(he:El P e R.sz bytes zs)(hsmall:1 * R.sz≤16777216)(hpos:0<1 * R.sz)
    (hf:rQ R.sz 1 zs (parts.toList.map fun p=>(p.1,ev ρ p.2))=some cs):
    ∃v w',Do P ⟨d,.buildSlice t 1 parts,ty,pos,af,g⟩ ρ w v w'∧ ∃b3,Hd O w0 w' S (rest [i] l++ [.tr (Rt.row R e []) [v] b3 [a]]):=
  Lx_bsT (xl:=[a]) (bx:=bs) hu he hsmall hpos rfl hf H [i] (by simp) (by simp [Go.Lf.pick,hi,bks,Th.blocks]) ⟨cs,[],bs,[],(List.append_nil _).symm,(List.append_nil _).symm,H.item hi,rfl,rfl⟩
theorem aSc {pre cs vs:List Value}{k i:Nat}(hk:pre.length=k):splice (pre++cs) (0+k+i) vs=pre++splice cs i vs:=by
 subst hk;unfold splice;rw [Nat.zero_add,List.take_append,List.take_of_length_le (by omega),show pre.length+i - pre.length=i by omega,List.drop_append,List.drop_eq_nil_of_le (by omega),List.nil_append,show pre.length+i+vs.length - pre.length=i+vs.length by omega];simp
theorem aKa {e:Fl α}{n:Nat}{X Y:Arr n α}{pre:List Value}{k:Nat}(H:Hd O w0 w S l)(m:Nat)(hi:l[m]? =some (.blk b (pre++(Fl.arr n e).f X) T))(hs:Sz P t e.sz)(hk:pre.length=k)(hx:ev ρ x= .pointer (some ⟨b,0+k+j.toNat * e.sz,none⟩))(hy:ev ρ y=v)(hv:v.cells=(e.f a).toArray)(h0:0≤j)(h1:j<n)(hX:Arr.set X j a=Y):
    ∃w',DoU P ⟨none,.store t x y,ty,pos,af,g⟩ ρ w w'∧Hd O w0 w' S (l.set m (.blk b (pre++(Fl.arr n e).f Y) T)):=by
  subst hX
  have hfit:0+k+j.toNat * e.sz+(e.f a).length≤(pre++(Fl.arr n e).f X).length:=by
    rw [List.length_append,(Fl.arr n e).len,e.len,hk,Nat.zero_add,Nat.add_assoc,← Nat.succ_mul]
    exact Nat.add_le_add_left (Nat.mul_le_mul_right _ (by omega)) _
  obtain ⟨w',h2,h3⟩:=nI (P:=P) (ρ:=ρ) (ty:=ty) (pos:=pos) (af:=af) (g:=g) hs (e.len a) hx (by rw [hy,hv]) (e.one a) (H.item hi) hfit
  rw [aSc hk,Arr.f_set h0 h1] at h3
  exact ⟨w',h2,H.wr hi h3⟩
theorem Cells.suf {pre:List Value}{k:Nat}(h:Cells w ⟨b,o,none⟩ (pre++cs))(hk:pre.length=k):Cells w ⟨b,o+k,none⟩ cs:=by
 subst hk;have q:=Cells.drop h pre.length cs.length;rwa [List.drop_left',List.take_of_length_le (Nat.le_refl _)] at q;rfl
theorem aSp {bytes s:Nat}{zv:Value}{j:Int}{a:α}{xl:List α}(hu:P.underlying t=some (.slice e))(he:El P e s bytes [zv])(h1c:s=1)(hx:ev ρ x= .int .i64 j)(hy:ev ρ y= .int .i64 j)(hm:make' bytes j a=some xl):
    ∃v w',Do P ⟨d,.makeSlice t x y,ty,pos,af,g⟩ ρ w v w'∧fJ w w':=by
 obtain ⟨h0,h1,h2,rfl⟩:=aJm hm;have hj:(j.toNat:Int)=j:=Int.toNat_of_nonneg h0;obtain ⟨v,w',h3,b,rfl,hA⟩:=Ex_ms (P:=P) (ρ:=ρ) (w:=w) (d:=d) (ty:=ty) (pos:=pos) (af:=af) (g:=g) (n:=j.toNat) (cs:=List.replicate j.toNat zv) hu he (by rw [hj]; exact hx) (by rw [hj]; exact hy) (by omega) (by omega) (by rw [h1c]; exact aKb);exact ⟨_,w',h3,hA.only.below⟩
end ops
end Go.Lf
namespace Go.Lf
open Go.RowKit Go.OB
def aIy {κ ν:Type} [DecidableEq κ] (l:List (κ×ν))(k:κ):Bool:=l.any fun p=>decide (p.1=k)
section
variable {P:Program} {ρ:Env} {w w0:World} {d:Option Tmp} {x y z:Operand} {t kt et ty:TypeId} {pos:String} {af:Array Edge} {g:Option (Nat×Bool)} {O S:List Nat} {l:List Th} {i b:Nat} {κ ν:Type} {K:Ky κ} {G:ν→Value} {m m':List (κ×ν)} {k:κ} {v u:ν} {hb:Bool}
theorem aQp [DecidableEq κ] {F:Nat→Prop}{zv:ν}(h:Th.holds F w (.mp b (fG K G m)))(hu:P.underlying t=some (.map kt et))(hk:P.underlying kt=some K.t)(hx:ev ρ x= .map (some b))(hy:ev ρ y=K.f k)(hz:(zeroValue et).run P w= .ok (G zv) w)(e1:jX m k zv=u)(e2:aIy m k=hb):
    Do P ⟨d,.lookup t x y true,ty,pos,af,g⟩ ρ w (.tuple #[G u,.bool hb]) w:=by
  subst e1 e2
  obtain ⟨es,c,h1,h2⟩:=h
  unfold Do
  have q:(Instr.lookup t (.map (some b)) (K.f k) true).run P w= .ok (.tuple #[G (jX m k zv),.bool (aIy m k)]) w:=by
    have hc: ∀e,(Instr.checkKey e 10000 kt (K.f k)).run P w= .ok () w:=fun e=>MapKept.run_checkKey hk (K.key k) e 9999
    unfold jX aIy
    cases hf:m.find? fun p=>decide (p.1=k) with
    | none=>
      have ha:m.any (fun p=>decide (p.1=k))=false:=by
        rw [List.find?_eq_none] at hf
        rw [List.any_eq_false]
        intro p hp; exact hf p hp
      have hn:=(nJ K G k es.toList m 0 h2).1 ha
      simp [Instr.lookup,run_underlying hu,MapKept.run_getObj_map h1,hc,MapKept.run_findKey hk hn,hz,Result.andThen,ha]
    | some p=>
      obtain ⟨j,hn⟩:=(nJ K G k es.toList m 0 h2).2 p hf
      have ha:m.any (fun p=>decide (p.1=k))=true:=by
        have:=List.find?_some hf
        exact List.any_eq_true.2 ⟨p,List.mem_of_find?_eq_some hf,this⟩
      simp [Instr.lookup,run_underlying hu,MapKept.run_getObj_map h1,hc,MapKept.run_findKey hk hn,Result.andThen,ha]
  simp [execOp,hx,hy,q]
end
end Go.Lf
namespace Go.MxM
open Go.OB Go.RowKit
end Go.MxM
namespace Go.Lf
open Go.RowKit Go.OB
end Go.Lf
