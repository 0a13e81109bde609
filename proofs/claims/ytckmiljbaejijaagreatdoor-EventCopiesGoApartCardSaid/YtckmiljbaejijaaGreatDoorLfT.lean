/- Walks: what each function computes, for every argument; no condition but those that stand in the statements. -/
import Derived.Test.YtckmiljbaejijaaGreatDoorLfS
namespace Go.Lf
open Go.RowKit Go.OB
def Th.Ff (x:Th):Prop:= ∀F F' w,x.holds F w→x.holds F' w
def Rp.Ff {α:Type}(r:Rp α):Prop:= ∀F F' w cs x,r.rd F w cs x→r.rd F' w cs x
def Rt.Ff {α:Type}(r:Rt α):Prop:= ∀F F' w cs bs x,r.rd F w cs bs x→r.rd F' w cs bs x
section ff
variable {α β:Type}
theorem ff_int (k:IntKind):(Rp.int k).Ff:=fun _ _ _ _ _ h=>h
theorem ff_bool:Rp.bool.Ff:=fun _ _ _ _ _ h=>h
theorem ff_pair {a:Rp α}{b:Rp β}(ha:a.Ff)(hb:b.Ff):(Rp.pair a b).Ff:=fun _ _ _ _ _ ⟨c,d,e,h1,h2⟩=>⟨c,d,e,ha _ _ _ _ _ h1,hb _ _ _ _ _ h2⟩
theorem ff_iso {a:Rp α}{f:β→α}(ha:a.Ff):(Rp.iso a f).Ff:=fun _ _ _ _ _ h=>ha _ _ _ _ _ h
theorem rows_ff {r:Rp α}(hr:r.Ff){F F':Nat→Prop}{w:World}: ∀{l:List α} {cs:List Value},rows r F w cs l→rows r F' w cs l
  | [],_,h=>h
  | _ :: _,_,⟨c,d,e,h1,h2⟩=>⟨c,d,e,hr _ _ _ _ _ h1,rows_ff hr h2⟩
theorem th_own {r:Rp α}{v:Value}{e:TypeId}{l:List α}(hr:r.Ff):(Th.own r v e l).Ff:=fun _ _ _ ⟨xs,h1,h2⟩=>⟨xs,rows_ff hr h1,h2⟩
end ff
def allFf:List Th→Prop
  | []=>True
  | x :: l=>x.Ff∧allFf l
theorem allFf_mem: ∀{l:List Th},allFf l→ ∀x ∈ l,x.Ff
  | [],_,x,h=>by cases h
  | y :: l,h,x,hx=>by
    rcases List.mem_cons.1 hx with e | e
    · rw [e]; exact h.1
    · exact allFf_mem h.2 x e
section hd
variable {P:Program} {ρ:Env} {w w0 w1 w':World} {d:Option Tmp} {x y z:Operand} {t u ty e:TypeId} {pos:String} {af:Array Edge} {g:Option (Nat×Bool)}
variable {v:Value} {b o i n c s m:Nat} {k k':IntKind} {cs xs vs:List Value} {bs:List Nat} {T:TypeId} {O O' S M:List Nat} {l l2:List Th} {α β:Type} {r:Rp α} {R:Rt α} {D:Hol} {xl yl zl:List α} {a:α} {j q:Int} {F:Nat→Prop}
theorem Hd.backL (H:Hd O w0 w S l)(ow:List Nat)(G:Hd O' w w' M l2)(hM: ∀b ∈ M,b ∈ bks (Go.Lf.pick ow l))(hf:allFf l2):Hd O w0 w' S (rest ow l++l2):=
  H.turnN ow l2 M G.only hM (fun b hb=>by
    obtain ⟨x,hx,hbx⟩:=dJ.1 hb
    have:=G.own x hx b hbx
    exact ⟨this.1.elim .inr fun h=> .inl (hM b h),this.2⟩) G.nd fun _ x hx=>allFf_mem hf x hx _ _ _ (G.holds x hx)
theorem set_same {x:α}{l:List α}(h:at' l j=some x):set' l j x=some l:=by
  obtain ⟨h0,h1,h2⟩:=yE h
  unfold set'
  rw [if_pos ⟨h0,h1⟩]
  congr 1
  apply List.ext_getElem?
  intro i
  rw [List.getElem?_set]
  split
  · rename_i e; subst e; rw [if_pos (by omega),h2]
  · rfl
theorem Hd.holeV (H:Hd O w0 w S l)(i:Nat){c:List Value}{f cap:Nat}(hi:l[i]? =some (.tr (Rt.row R e D) [v] bs xl))(hv:v= .slice (some ⟨b,o,none⟩) xl.length cap)(hx:at' xl j=some a)(hf:j.toNat=f)(hD:D.lookup f=some c):Cells w ⟨b,o+j.toNat * R.sz,none⟩ c:=by
  subst hv hf
  obtain ⟨h0,h1,-⟩:=yE hx
  exact H.hole i hi hD (by omega)
theorem kG (h:(Rt.row R e D).rd F w [v] bs xl)(hx:at' xl j=some a): ∃b o cap,v= .slice (some ⟨b,o,none⟩) xl.length cap:=by
  obtain ⟨h0,hl,-⟩:=yE hx
  obtain ⟨v1,ys,b1,hv1,hb1,r1,r2⟩:=h
  obtain rfl:v=v1:=by simpa using hv1
  obtain ⟨b,o,cap,rfl,-⟩:=r2.slr.some (by omega)
  exact ⟨b,o,cap,rfl⟩
theorem Lx_bsT {len bytes : Nat} {zs : List Value} {bx : List Nat} {parts : Array (Nat × Operand)} (hu : P.underlying t = some (.slice e)) (he : El P e R.sz bytes zs) (hsmall : len * R.sz ≤ 16777216) (hpos : 0 < len * R.sz) (hln : xl.length = len)
    (hf : fillB R.sz len zs (parts.toList.map fun p => (p.1, ev ρ p.2)) = some cs) (H : Hd O w0 w S l) (idx : List Nat) (hn : idx.Nodup) (hb : bx.Perm (bks (Go.Lf.pick idx l))) (hr : kE R (frees O l) w [] 0 cs bx xl) :
    ∃ v w', Do P ⟨d, .buildSlice t len parts, ty, pos, af, g⟩ ρ w v w' ∧ ∃ b3, Hd O w0 w' S (rest idx l ++ [.tr (Rt.row R e []) [v] b3 xl]) := by
  obtain ⟨v, w', h1, b, rfl, hA⟩ := Ex_bs (P := P) (ρ := ρ) (w := w) (d := d) (ty := ty) (pos := pos) (af := af) (g := g) hu he hsmall hpos hf
  have hlt : ∀ c ∈ bx, c < w.heap.size := fun c hc => H.lt (wC (hb.mem_iff.1 hc))
  refine ⟨_, w', h1, b :: bx, H.turnN idx _ [] hA.only (by simp) (fun c hc => ?_) ?_ (fun hs x hx => ?_)⟩
  · have hc : c ∈ b :: bx := by simpa [bks, Th.blocks] using hc
    rcases List.mem_cons.1 hc with e | h
    · subst e; exact ⟨.inr (Nat.le_of_eq hA.at_.symm), by rw [hA.size, hA.at_]; omega⟩
    · exact ⟨.inl (hb.mem_iff.1 h), Nat.lt_of_lt_of_le (hlt c h) (by rw [hA.size]; omega)⟩
  · have : (b :: bx).Nodup := List.nodup_cons.2 ⟨fun h => by have := hlt b h; rw [hA.at_] at this; omega, hb.nodup_iff.2 (H.pick_nd hn)⟩
    simpa [bks, Th.blocks] using this
  · obtain rfl := List.mem_singleton.1 hx
    have hlen := rowsH_len hr
    subst hln
    refine ⟨_, cs, bx, rfl, rfl, rowsH_mono hs (fun c hc => hA.only.block c (hlt c hc) (by simp)) hr, hlen, .inr ⟨b, 0, xl.length, cs, rfl, hA.blk, Nat.le_refl _, ?_, by rw [hlen]; omega, by rw [List.drop_zero, List.take_of_length_le (by omega)]⟩⟩
    rw [maxLen_eq]
    have h0 : R.sz ≠ 0 := by intro h; rw [h] at hpos; simp at hpos
    have : xl.length ≤ xl.length * R.sz := Nat.le_mul_of_pos_right _ (by omega)
    omega
theorem Lx_rpart_l {kl:IntKind}{lo:Int}{lo':Operand}(H:Hd O w0 w S l)(i:Nat)(hi:l[i]? =some (.tr (Rt.row (Rt.of r) e []) [v] bs xl))(hu:P.underlying t=some (.slice e))(hz:Sz P e r.sz)(hx:ev ρ x=v)(hl:ev ρ lo'= .int kl lo)(hs:sub' xl lo (xl.length:Int)=some yl):
    ∃v',(∀w',Do P ⟨d,.slice t x (some lo') none none,ty,pos,af,g⟩ ρ w' v' w')∧Hd O w0 w S (l.set i (.tr (Rt.row (Rt.of r) e []) [v'] bs yl)):=by
  obtain ⟨a,c,e1,h0,h1,h2,h3,h4⟩:=rowF_part H i hi hs
  refine ⟨_,fun w'=>Do_slice_l hu hz (hx.trans e1) hl h0 (by omega),?_⟩
  simpa using h4
def Rt.Fr {α:Type}(R:Rt α)(r:Rp α):Prop:=R.sz=r.sz∧ ∀F F' w cs bs x,(∀b,F b→F' b)→(∀b ∈ bs,F' b∧b<w.heap.size)→R.rd F w cs bs x→r.rd F' w cs x
theorem fr_of {r:Rp α}:(Rt.of r).Fr r:=⟨rfl,fun F F' w cs bs x h1 _ h=>r.mono (fun b hb _=>⟨h1 b hb,rfl⟩) h.2⟩
theorem rowsH_fr {r:Rp α}(hr:R.Fr r){F F':Nat→Prop}(h1: ∀b,F b→F' b): ∀{l:List α} {i:Nat} {cs:List Value} {bs:List Nat},(∀b ∈ bs,F' b∧b<w.heap.size)→kE R F w [] i cs bs l→rows r F' w cs l
  | [],_,_,_,_,h=>h.1
  | _ :: _,_,_,_,hb,⟨c,d,b1,b2,e,e2,q1,q2⟩=>⟨c,d,e,hr.2 F F' w c b1 _ h1 (fun b h=>hb b (by rw [e2]; exact List.mem_append_left _ h)) q1,rowsH_fr hr h1 (fun b h=>hb b (by rw [e2]; exact List.mem_append_right _ h)) q2⟩
theorem fr_row {r:Rp α}(hr:R.Fr r):(Rt.row R e []).Fr (Rp.sl r):=⟨rfl,fun F F' w cs bs x h1 h2 ⟨v,xs,b1,e1,e2,q1,q2⟩=>
  ⟨v,e1,xs,rowsH_fr hr h1 (fun b h=>h2 b (by rw [e2]; exact List.mem_append_right _ h)) q1,by rw [← hr.1]; exact q2.slr,fun _ b hb=>h2 b (by rw [e2]; exact List.mem_append_left _ (aU.2 hb))⟩⟩
theorem Hd.freezeT {r:Rp α}(hr:R.Fr r)(H:Hd O w0 w S l)(i:Nat)(hi:l[i]? =some (.tr (Rt.row R e []) [v] bs xl)):Hd O w0 w S (l.set i (.fz (.sl r v xl))):=by
  refine H.turn hi (Only.refl _ w) (fun hs=>?_) (by simp [Th.blocks]) (by simp [Th.blocks])
  have hm:=List.mem_of_getElem? hi
  obtain ⟨u,e1,h⟩:=(fr_row (e:=e) hr).2 (frees O l) (frees O (l.set i (.fz (.sl r v xl)))) w [v] bs xl (fun b hb=>⟨hb.1,fun h=>by
      rcases bks_set h with h | ⟨j,x,hj,hx,hbx⟩
      · simp [Th.blocks] at h
      · exact hb.2 (dJ.2 ⟨x,List.mem_of_getElem? hx,hbx⟩)⟩) (fun b hb=>⟨⟨H.notO hm hb,fun h=>by
      rcases bks_set h with h | ⟨j,x,hj,hx,hbx⟩
      · simp [Th.blocks] at h
      · exact H.apart hx hi hj b hbx hb⟩,(H.own _ hm b hb).2⟩) (H.item hi)
  obtain rfl:v=u:=by simpa using e1
  exact h
end hd
end Go.Lf
namespace Go.Lf
open Go.RowKit Go.OB
def aZ (P:Program)(name:String)(recv:Value)(f:FuncId)(r:Value):Prop:= ∀(w:World) (args:Array Value),(callMethod recv name args).run P w= .ok (.enter f (#[r]++args)) w
theorem aZ.eq {P:Program}{name:String}{recv:Value}{f f':FuncId}{r r':Value}(h:aZ P name recv f r)(h':aZ P name recv f' r')(w:World):f=f'∧r=r':=by
  have q:=(h w #[]).symm.trans (h' w #[])
  simp at q
  exact q
def methB (P:Program)(t:TypeId)(name:String)(f:FuncId)(p:Bool):Bool:=
  match P.info? t with
  | some i=>match i.methods.find? (fun m=>m.name==name) with
    | some m=>m.path.isEmpty && (match m.func with | some (g,q)=>g==f && q==p | none=>false)
    | none=>false
  | none=>false
def ptrB (P:Program)(t:TypeId)(p:Bool):Bool:=
  match P.underlying t with
  | some (.pointer _)=>p
  | some (.interface _)=>false
  | some _=> !p
  | none=>false
theorem xU {P:Program}{t:TypeId}{name:String}{f:FuncId}{p:Bool}{v:Value}(h:methB P t name f p=true)(hp:ptrB P t p=true)(en:Enters P f):aZ P name (.iface t v) f v:=by
  intro w args
  obtain ⟨fn,h1,h2,h3⟩:=en
  have h2': ¬fn.body=none:=by cases hb:fn.body<;>simp_all
  have h3': ¬fn.name= "runtime.NumGoroutine" :=by simpa using h3
  have hc: ∀as:Array Value,(callFunc f as).run P w= .ok (.enter f as) w:=by
    intro as
    simp [callFunc,Sem.run,h1,h2',h3',program]
  unfold methB at h
  cases hi:P.info? t with
  | none=>rw [hi] at h; cases h
  | some i=>
    rw [hi] at h
    cases hm:i.methods.find? (fun m=>m.name==name) with
    | none=>simp only [hm] at h; cases h
    | some m=>
      simp only [hm] at h
      obtain ⟨hpath,hf⟩:=(Bool.and_eq_true _ _ ▸ h:m.path.isEmpty=true∧_)
      have hpath':m.path= #[]:=by simpa using hpath
      cases hmf:m.func with
      | none=>simp only [hmf] at hf; cases hf
      | some gq=>
        obtain ⟨g,q⟩:=gq
        simp only [hmf,Bool.and_eq_true,beq_iff_eq] at hf
        obtain ⟨rfl,rfl⟩:=hf
        obtain ⟨n,hn⟩: ∃n,P.types.size+Made.depth=n+1:=⟨P.types.size+(Made.depth - 1),by unfold Made.depth; omega⟩
        have hr:(receiverAt t (.val v) q (if m.path.isEmpty then some ((name.splitOn ".").getLastD name) else none)).run P w= .ok v w:=by
          unfold ptrB at hp
          cases hu:P.underlying t with
          | none=>rw [hu] at hp; cases hp
          | some d=>
            rw [hu] at hp
            cases d<;>simp_all [receiverAt,run_underlying hu,Place.get]
        have hmeth:(method (n+1) t v name).run P w= .ok (g,v) w:=by
          simp only [method,typeInfo,Sem.run_bind]
          simp [hi,hm,hpath',follow,hmf]
          simp [hpath'] at hr
          simp [hr]
        unfold callMethod
        simp [hn,hmeth,hc]
section ops
variable {P:Program} {ρ:Env} {w w0 w1 w':World} {d:Option Tmp} {x y z:Operand} {t u ty e:TypeId} {pos:String} {af:Array Edge} {g:Option (Nat×Bool)}
variable {v:Value} {b o i n c s m:Nat} {k k':IntKind} {cs xs vs:List Value} {bs:List Nat} {T:TypeId} {O O' S M:List Nat} {l l2:List Th} {α β:Type} {r:Rp α} {R:Rt α} {D:Hol} {xl yl zl:List α} {a:α} {j q:Int} {F:Nat→Prop}
theorem aA {f:FuncId}{rv recv:Value}{name:String}{ro:Operand}{args:Array Operand}{at_:Array TypeId}(hm:aZ P name recv f rv)(hr:ev ρ ro=recv)(ha:args.toList.map (ev ρ)=vs):
    DoC P ⟨d,.call {callee:= .invoke ro name,args:=args,argTypes:=at_},ty,pos,af,g⟩ ρ w f (rv :: vs).toArray:=by
  have h1:=hm w (args.map (ev ρ))
  have e1:args.map (ev ρ)=vs.toArray:=by rw [← ha]; apply Array.ext'; simp
  unfold DoC
  have e2:(#[rv]++vs.toArray:Array Value)=(rv :: vs).toArray:=by simp
  rw [e1,e2] at h1
  simp [execOp,resolve,invoke,hr,e1,h1]
def mkiB (P:Program)(t:TypeId):Bool:=match P.underlying t with | some (.interface _)=>false | some _=>true | none=>false
theorem bG (h:mkiB P t=true)(hx:ev ρ x=v):Do P ⟨d,.makeInterface t x,ty,pos,af,g⟩ ρ w (.iface t v) w:=by
  unfold mkiB at h
  cases hu:P.underlying t with
  | none=>rw [hu] at h; cases h
  | some dd=>
    rw [hu] at h
    unfold Do
    cases dd<;>simp_all [execOp,Instr.makeInterface,run_underlying hu]
theorem row_n {n c:Nat}{a:Option Addr}(h:(Rt.row R e D).rd F w [.slice a n c] bs xl):n=xl.length:=by
  obtain ⟨a',c',h1⟩:=kN h
  cases h1; rfl
theorem Hd.focusV {cap:Nat}(H:Hd O w0 w S l)(i:Nat)(hi:l[i]? =some (.tr (Rt.row R e D) [v] bs xl))(hv:v= .slice (some ⟨b,o,none⟩) n cap)(hx:at' xl j=some a)(hD:D.lookup j.toNat=none):
    ∃c b1 b2,Hd O w0 w S (rest [i] l++ [.tr (Rt.row R e ((j.toNat,c) :: D)) [v] b1 xl,.tr R c b2 a]):=by
  obtain ⟨b',o',cap',c,b1,b2,e1,h1,h2⟩:=H.focus i hi hx hD
  exact ⟨c,b1,b2,h2⟩
theorem Hd.holeW {c:List Value}{f cap:Nat}(H:Hd O w0 w S l)(i:Nat)(hi:l[i]? =some (.tr (Rt.row R e D) [v] bs xl))(hv:v= .slice (some ⟨b,o,none⟩) n cap)(hx:at' xl j=some a)(hf:j.toNat=f)(hD:D.lookup f=some c):Cells w ⟨b,o+j.toNat * R.sz,none⟩ c:=by
  subst hv
  obtain rfl:=row_n (H.item hi)
  exact H.holeV i hi rfl hx hf hD
theorem trF {F:Nat→Prop}(h:(Th.tr (Rt.of r) cs bs a).holds F w):bs= []∧r.rd F w cs a:=h
theorem bF {F:Nat→Prop}(h:(Th.tr R [v] bs a).holds F w):v.oneCell'=true:=R.one h v (by simp)
theorem tr_cell {F:Nat→Prop}(hz:R.sz=1)(h:(Th.tr R cs bs a).holds F w): ∃v,cs= [v]:=by
  have:=R.len h
  rw [hz] at this
  match cs,this with
  | [v],_=>exact ⟨v,rfl⟩
theorem Hd.unfocus0 {c:List Value}{b1 b2:List Nat}{f:Nat}(H:Hd O w0 w S l)(i k:Nat)(hi:l[i]? =some (.tr (Rt.row R e ((f,c) :: D)) [v] b1 xl))(hk:l[k]? =some (.tr R c b2 a))(hik:i≠k)(hf:j.toNat=f)(hD:D.lookup f=none)(hx:at' xl j=some a):
    ∃b3,Hd O w0 w S (rest [i,k] l++ [.tr (Rt.row R e D) [v] b3 xl]):=
  H.unfocus i k hi hk hik hf hD (set_same hx)
theorem Lx_bsT1 {bytes:Nat}{zs:List Value}{parts:Array (Nat×Operand)}(H:Hd O w0 w S l)(i:Nat)(hi:l[i]? =some (.tr R cs bs a))(hu:P.underlying t=some (.slice e))(he:El P e R.sz bytes zs)(hsmall:1 * R.sz≤16777216)(hpos:0<1 * R.sz)
    (hf:fillB R.sz 1 zs (parts.toList.map fun p=>(p.1,ev ρ p.2))=some cs):
    ∃v w',Do P ⟨d,.buildSlice t 1 parts,ty,pos,af,g⟩ ρ w v w'∧ ∃b3,Hd O w0 w' S (rest [i] l++ [.tr (Rt.row R e []) [v] b3 [a]]):=
  Lx_bsT (xl:=[a]) (bx:=bs) hu he hsmall hpos rfl hf H [i] (by simp) (by simp [Go.Lf.pick,hi,bks,Th.blocks]) ⟨cs,[],bs,[],(List.append_nil _).symm,(List.append_nil _).symm,H.item hi,rfl,rfl⟩
theorem splice_app {pre cs vs:List Value}{k i:Nat}(hk:pre.length=k):splice (pre++cs) (0+k+i) vs=pre++splice cs i vs:=by
  subst hk
  unfold splice
  rw [Nat.zero_add,List.take_append,List.take_of_length_le (by omega),show pre.length+i - pre.length=i by omega,List.drop_append,List.drop_eq_nil_of_le (by omega),List.nil_append,show pre.length+i+vs.length - pre.length=i+vs.length by omega]
  simp
theorem Lx_storeP {e:Fl α}{n:Nat}{X Y:Arr n α}{pre:List Value}{k:Nat}(H:Hd O w0 w S l)(m:Nat)(hi:l[m]? =some (.blk b (pre++(Fl.arr n e).f X) T))(hs:Sz P t e.sz)(hk:pre.length=k)(hx:ev ρ x= .pointer (some ⟨b,0+k+j.toNat * e.sz,none⟩))(hy:ev ρ y=v)(hv:v.cells=(e.f a).toArray)(h0:0≤j)(h1:j<n)(hX:Arr.set X j a=Y):
    ∃w',DoU P ⟨none,.store t x y,ty,pos,af,g⟩ ρ w w'∧Hd O w0 w' S (l.set m (.blk b (pre++(Fl.arr n e).f Y) T)):=by
  subst hX
  have hfit:0+k+j.toNat * e.sz+(e.f a).length≤(pre++(Fl.arr n e).f X).length:=by
    rw [List.length_append,(Fl.arr n e).len,e.len,hk,Nat.zero_add,Nat.add_assoc,← Nat.succ_mul]
    exact Nat.add_le_add_left (Nat.mul_le_mul_right _ (by omega)) _
  obtain ⟨w',h2,h3⟩:=Ex_storeAt (P:=P) (ρ:=ρ) (ty:=ty) (pos:=pos) (af:=af) (g:=g) hs (e.len a) hx (by rw [hy,hv]) (e.one a) (H.item hi) hfit
  rw [splice_app hk,Arr.f_set h0 h1] at h3
  exact ⟨w',h2,H.wr hi h3⟩
theorem Cells.suf {pre:List Value}{k:Nat}(h:Cells w ⟨b,o,none⟩ (pre++cs))(hk:pre.length=k):Cells w ⟨b,o+k,none⟩ cs:=by
  subst hk
  have q:=Cells.drop h pre.length cs.length
  rwa [List.drop_left',List.take_of_length_le (Nat.le_refl _)] at q
  rfl
theorem Ys_make {bytes s:Nat}{zv:Value}{j:Int}{a:α}{xl:List α}(hu:P.underlying t=some (.slice e))(he:El P e s bytes [zv])(h1c:s=1)(hx:ev ρ x= .int .i64 j)(hy:ev ρ y= .int .i64 j)(hm:make' bytes j a=some xl):
    ∃v w',Do P ⟨d,.makeSlice t x y,ty,pos,af,g⟩ ρ w v w'∧fO w w':=by
  obtain ⟨h0,h1,h2,rfl⟩:=make_some hm
  have hj:(j.toNat:Int)=j:=Int.toNat_of_nonneg h0
  obtain ⟨v,w',h3,b,rfl,hA⟩:=Ex_ms (P:=P) (ρ:=ρ) (w:=w) (d:=d) (ty:=ty) (pos:=pos) (af:=af) (g:=g) (n:=j.toNat) (cs:=List.replicate j.toNat zv) hu he (by rw [hj]; exact hx) (by rw [hj]; exact hy) (by omega) (by omega) (by rw [h1c]; exact rep_cells)
  exact ⟨_,w',h3,hA.only.below⟩
theorem allone_of: ∀{l:List Value},(∀v ∈ l,v.oneCell'=true)→allone l
  | [],_=>trivial
  | v :: l,h=>⟨h v (by simp),allone_of fun u hu=>h u (by simp [hu])⟩
theorem allone_app: ∀{l m:List Value},allone l→allone m→allone (l++m)
  | [],_,_,h=>h
  | _ :: _,_,h,k=>⟨h.1,allone_app h.2 k⟩
theorem Lx_storeT {m:Nat}(H:Hd O w0 w S l)(n:Nat)(hi:l[n]? =some (.blk b cs T))(hs:Sz P t m)(hc:cs.length=m)(hm:vs.length=m)(hx:ev ρ x= .pointer (some ⟨b,0,none⟩))(hy:ev ρ y= .agg vs.toArray)(h1:allone vs):
    ∃w',DoU P ⟨none,.store t x y,ty,pos,af,g⟩ ρ w w'∧Hd O w0 w' S (l.set n (.blk b vs T)):=by
  obtain ⟨w',h2,h3⟩:=Ex_store (P:=P) (ρ:=ρ) (ty:=ty) (pos:=pos) (af:=af) (g:=g) hs hm hx hy (kV h1) (H.item hi) (by omega)
  rw [splice_all (by omega)] at h3
  exact ⟨w',h2,H.wr hi h3⟩
def Rt.opt (R:Rt α)(T:TypeId):Rt (Option α):=
  ⟨1,fun F w cs bs x=>(x=none∧cs= [.pointer none]∧bs= [])∨ ∃a b c b1,x=some a∧cs= [.pointer (some ⟨b,0,none⟩)]∧bs=b1++ [b]∧Blk w b c T∧R.rd F w c b1 a,
   fun h=>by rcases h with ⟨_,e,_⟩ | ⟨_,_,_,_,_,e,_⟩<;>subst e<;>rfl,
   fun h=>by rcases h with ⟨_,e,_⟩ | ⟨_,_,_,_,_,e,_⟩<;>subst e<;>intro v hv<;>obtain rfl:=List.mem_singleton.1 hv<;>rfl,
   fun hs hb h=>h.imp id fun ⟨a,b,c,b1,e1,e2,e3,h1,h2⟩=>⟨a,b,c,b1,e1,e2,e3,aY h1 (hb b (by rw [e3]; simp)),R.mono hs (fun k hk=>hb k (by rw [e3]; exact List.mem_append_left _ hk)) h2⟩⟩
theorem Hd.opt_some {x : Option α} (H : Hd O w0 w S l) (i : Nat) (hi : l[i]? = some (.tr (Rt.opt R T) [v] bs x)) (h : x = some a) : Hd O w0 w S (l.set i (.tr (Rt.opt R T) [v] bs (some a))) := by
  subst h
  have e : l.set i (.tr (Rt.opt R T) [v] bs (some a)) = l := by
    apply List.ext_getElem?
    intro k
    rw [List.getElem?_set]
    split
    · rename_i q; subst q
      obtain ⟨h1, h2⟩ := List.getElem?_eq_some_iff.1 hi
      rw [if_pos h1, hi]
    · rfl
  rw [e]; exact H
theorem Hd.opt_open (H : Hd O w0 w S l) (i : Nat) (hi : l[i]? = some (.tr (Rt.opt R T) [v] bs (some a))) : ∃ b c b1, v = .pointer (some ⟨b, 0, none⟩) ∧ Hd O w0 w S (rest [i] l ++ [.tr R c b1 a, .blk b c T]) := by
  rcases H.item hi with ⟨h, _⟩ | ⟨a', b, c, b1, e1, e2, e3, h1, h2⟩
  · cases h
  · cases e1
    refine ⟨b, c, b1, by simpa using e2, H.split i hi _ (by subst e3; simp [bks, Th.blocks]) fun x hx => ?_⟩
    simp only [List.mem_cons, List.not_mem_nil, or_false] at hx
    rcases hx with rfl | rfl
    · exact h2
    · exact h1
theorem Hd.opt_mk (H:Hd O w0 w S l)(i k:Nat)(hi:l[i]? =some (.tr R cs bs a))(hk:l[k]? =some (.blk b cs T))(hik:i≠k): ∃b1,Hd O w0 w S (rest [i,k] l++ [.tr (Rt.opt R T) [.pointer (some ⟨b,0,none⟩)] b1 (some a)]):=
  ⟨bs++ [b],H.unite [i,k] (by simpa using hik) _ (by simp [Go.Lf.pick,hi,hk,bks,Th.blocks]) (.inr ⟨a,b,cs,bs,rfl,rfl,rfl,H.item hk,H.item hi⟩)⟩
theorem Hd.opt_none (H:Hd O w0 w S l)(R:Rt α)(T:TypeId):Hd O w0 w S (l++ [.tr (Rt.opt R T) [.pointer none] [] none]):=
  H.add (Only.refl [] w) (fun _=> .inl ⟨rfl,rfl,rfl⟩) (by simp [Th.blocks]) (by simp [Th.blocks])
end ops
end Go.Lf
