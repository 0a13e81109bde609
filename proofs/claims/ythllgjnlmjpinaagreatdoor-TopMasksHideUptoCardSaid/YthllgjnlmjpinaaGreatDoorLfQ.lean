/- Walks: what each function computes, for every argument; no condition but those that stand in the statements. -/
import Derived.Test.YthllgjnlmjpinaaGreatDoorLfP
import Derived.Test.YthllgjnlmjpinaaGreatDoorObC
import Derived.Test.YthllgjnlmjpinaaGreatDoorObB
import Derived.Deep.Slices
namespace Go.Lf
open Go.RowKit Go.OB
structure Arr (n:Nat)(α:Type) where
  l:List α
  h:l.length=n
theorem Arr.ext {n:Nat}{α:Type}: ∀{x y:Arr n α},x.l=y.l→x=y
  | ⟨_,_⟩,⟨_,_⟩,h=>by cases h; rfl
instance {n:Nat} {α:Type} [DecidableEq α]:DecidableEq (Arr n α):=fun x y=>decidable_of_iff (x.l=y.l) ⟨Arr.ext,fun h=>by rw [h]⟩
def Arr.rep {α:Type}(n:Nat)(x:α):Arr n α:=⟨List.replicate n x,List.length_replicate⟩
def Arr.set {n:Nat}{α:Type}(x:Arr n α)(i:Int)(a:α):Arr n α:=⟨x.l.set i.toNat a,by rw [List.length_set,x.h]⟩
theorem Arr.at_lt {n:Nat}{α:Type}{x:Arr n α}{q:Int}{a:α}(h:at' x.l q=some a):0≤q∧q<n:=by
 have:=zL h; rw [x.h] at this; exact ⟨this.1,this.2.1⟩
structure Fl (α:Type) where
  sz:Nat
  f:α→List Value
  len: ∀x,(f x).length=sz
  one: ∀x,∀v ∈ f x,v.oneCell'=true
section
variable {α β:Type} {n:Nat}
def Fl.int (k:IntKind):Fl Int:=⟨1,fun x=>[.int k x],fun _=>rfl,fun _ v h=>by obtain rfl:=List.mem_singleton.1 h; rfl⟩
def Fl.bool:Fl Bool:=⟨1,fun x=>[.bool x],fun _=>rfl,fun _ v h=>by obtain rfl:=List.mem_singleton.1 h; rfl⟩
def Fl.str:Fl Str:=⟨1,fun x=>[.string (bs x)],fun _=>rfl,fun _ v h=>by obtain rfl:=List.mem_singleton.1 h; rfl⟩
def Fl.pair (a:Fl α)(b:Fl β):Fl (α×β):=⟨a.sz+b.sz,fun x=>a.f x.1++b.f x.2,fun x=>by rw [List.length_append,a.len,b.len],fun x v h=>(List.mem_append.1 h).elim (a.one _ v) (b.one _ v)⟩
def Fl.iso (a:Fl α)(g:β→α):Fl β:=⟨a.sz,fun x=>a.f (g x),fun _=>a.len _,fun _=>a.one _⟩
theorem aEn (e:Fl α): ∀l:List α,(l.flatMap e.f).length=l.length * e.sz
  | []=>by simp
  | x :: l=>by rw [List.flatMap_cons,List.length_append,e.len,aEn e l,List.length_cons,Nat.add_mul]; omega
def Fl.arr (n:Nat)(e:Fl α):Fl (Arr n α):=⟨n * e.sz,fun x=>x.l.flatMap e.f,fun x=>by rw [aEn,x.h],fun x v h=>by obtain ⟨y,_,hy⟩:=List.mem_flatMap.1 h; exact e.one y v hy⟩
def Rp.fl (e:Fl α):Rp α:=⟨e.sz,fun _ _ cs x=>cs=e.f x,fun h=>by subst h; exact e.len _,fun h=>by subst h; exact e.one _,fun _ h=>h⟩
theorem aBq {e : Fl α} {F : Nat → Prop} {w : World} : ∀ {l : List α} {cs : List Value}, rows (Rp.fl e) F w cs l ↔ cs = l.flatMap e.f
  | [], cs => Iff.rfl
  | x :: l, cs => by
    constructor
    · rintro ⟨c, d, rfl, h1, h2⟩
      have h1 : c = e.f x := h1
      rw [h1, aBq.1 h2]; rfl
    · rintro rfl
      exact ⟨e.f x, l.flatMap e.f, rfl, rfl, aBq.2 rfl⟩
theorem aQl {e:Fl α}{l:List α}{i:Nat}{a:α}(h:l[i]? =some a):((l.flatMap e.f).drop (i * e.sz)).take e.sz=e.f a:=by
 have:=aHi (r:=Rp.fl e) (F:=fun _=>True) (w:=default) (aBq.2 rfl) h;exact this
theorem fl_set {e:Fl α}{l:List α}{i:Nat}{a:α}(h:i<l.length):splice (l.flatMap e.f) (i * e.sz) (e.f a)=(l.set i a).flatMap e.f:=by
 have:=aMx (r:=Rp.fl e) (F:=fun _=>True) (w:=default) (c:=e.f a) (x:=a) (aBq.2 rfl) h rfl;exact aBq.1 this
theorem Arr.f_get {e:Fl α}{x:Arr n α}{q:Int}{a:α}(h:at' x.l q=some a):(((Fl.arr n e).f x).drop (q.toNat * e.sz)).take e.sz=e.f a:=aQl (zL h).2.2
theorem Arr.f_set {e:Fl α}{x:Arr n α}{q:Int}{a:α}(h0:0≤q)(h1:q<n):splice ((Fl.arr n e).f x) (q.toNat * e.sz) (e.f a)=(Fl.arr n e).f (x.set q a):=fl_set (by rw [x.h]; omega)
theorem Cells.ix {e:Fl α}{x:Arr n α}{w:World}{b o:Nat}{q:Int}{a:α}(hc:Cells w ⟨b,o,none⟩ ((Fl.arr n e).f x))(h:at' x.l q=some a):Cells w ⟨b,o+q.toNat * e.sz,none⟩ (e.f a):=by
 have:=hc.drop (q.toNat * e.sz) e.sz;rwa [Arr.f_get h] at this
end
section
variable {P:Program} {ρ:Env} {w w0 w1:World} {d:Option Tmp} {x y z:Operand} {t u ty:TypeId} {pos:String} {af:Array Edge} {g:Option (Nat×Bool)}
variable {v:Value} {b o i n c s m:Nat} {k k':IntKind} {cs xs vs:List Value} {T:TypeId} {O S:List Nat} {l:List Th} {α:Type} {e:Fl α} {X Y:Arr n α} {a:α} {j q:Int} {F:Nat→Prop}
theorem aPv (h1:Agg P t)(hx:ev ρ x= .pointer (some ⟨b,o,none⟩))(hs:Sz P t e.sz)(hc:Cells w ⟨b,o,none⟩ (e.f a)):Do P ⟨d,.load t x,ty,pos,af,g⟩ ρ w (.agg (e.f a).toArray) w:=
  zY h1 hx hs (e.len a) hc
theorem aB (h1:cZ P t)(hx:ev ρ x= .pointer (some ⟨b,o,none⟩))(hc:Cells w ⟨b,o,none⟩ [v]):Do P ⟨d,.load t x,ty,pos,af,g⟩ ρ w v w:=
  yS h1 hx (by have:=hc.get (i:=0) (v:=v) rfl; exact this)
theorem dP (hu:P.underlying t=some (.array n u))(hs:Sz P u s)(hx:ev ρ x= .pointer (some ⟨b,o,none⟩))(hy:ev ρ y= .int k q)(h:at' X.l q=some a):
    Do P ⟨d,.indexAddr t x y,ty,pos,af,g⟩ ρ w (.pointer (some ⟨b,o+q.toNat * s,none⟩)) w:=
  Do_idxa hu hs hx hy (Arr.at_lt h).1 (Arr.at_lt h).2 rfl rfl
theorem jT (H:Hd O w0 w S l)(m:Nat)(hi:l[m]? =some (.blk b ((Fl.arr n e).f X) T))(hs:Sz P t e.sz)(hx:ev ρ x= .pointer (some ⟨b,0+j.toNat * e.sz,none⟩))(hy:ev ρ y=v)(hv:v.cells=(e.f a).toArray)(h0:0≤j)(h1:j<n)(hX:X.set j a=Y):
    ∃w',DoU P ⟨none,.store t x y,ty,pos,af,g⟩ ρ w w'∧Hd O w0 w' S (l.set m (.blk b ((Fl.arr n e).f Y) T)):=by
  subst hX
  have hfit:0+j.toNat * e.sz+(e.f a).length≤((Fl.arr n e).f X).length:=by
    rw [(Fl.arr n e).len,e.len,Nat.zero_add,← Nat.succ_mul]
    exact Nat.mul_le_mul_right _ (by omega)
  obtain ⟨w',h2,h3⟩:=nI (P:=P) (ρ:=ρ) (ty:=ty) (pos:=pos) (af:=af) (g:=g) hs (e.len a) hx (by rw [hy,hv]) (e.one a) (H.item hi) hfit
  rw [Nat.zero_add,Arr.f_set h0 h1] at h3
  exact ⟨w',h2,H.wr hi h3⟩
theorem qF {e:Fl α}(H:Hd O w0 w S l)(m:Nat)(hi:l[m]? =some (.blk b (e.f a) T)){a':α}(hs:Sz P t e.sz)(hx:ev ρ x= .pointer (some ⟨b,0,none⟩))(hy:ev ρ y= .agg (e.f a').toArray):
    ∃w',DoU P ⟨none,.store t x y,ty,pos,af,g⟩ ρ w w'∧Hd O w0 w' S (l.set m (.blk b (e.f a') T)):=by
 obtain ⟨w',h2,h3⟩:=aOt (P:=P) (ρ:=ρ) (ty:=ty) (pos:=pos) (af:=af) (g:=g) hs (e.len a') hx hy (e.one a') (H.item hi) (by rw [e.len,e.len]; omega);rw [aQz (by rw [e.len,e.len])] at h3;exact ⟨w',h2,H.wr hi h3⟩
theorem Hd.freezeB (H:Hd O w0 w S l)(hi:l[i]? =some (.blk b cs T)):Hd O w0 w S (l.set i (.fz (.at b 0 cs))):=by
  refine H.turn hi (Only.refl _ w) (fun hs=>?_) (by simp [Th.blocks]) (by simp [Th.blocks])
  have hb:=H.item hi
  have hbm:b ∈ (Th.blk b cs T).blocks:=by simp [Th.blocks]
  refine ⟨⟨H.notO (List.mem_of_getElem? hi) hbm,fun hm=>?_⟩,Blk.lt hb,Blk.cells hb⟩
  rcases wV hm with h | ⟨j,x,hj,hx,hbx⟩
  · simp [Th.blocks] at h
  · exact H.apart hx hi hj b hbx hbm
def EqF (P:Program)(t:TypeId)(e:Fl α) [DecidableEq α] (k:Nat):Prop:=
  ∀D (xs ys:Array Value) (i:Nat) (a b:α) (w:World),(xs.toList.drop i).take e.sz=e.f a→(ys.toList.drop i).take e.sz=e.f b→
    ∃u v,(part t xs i).run P w= .ok u w∧(part t ys i).run P w= .ok v w∧(Op.equalIn (D+k) t u v).run P w= .ok (decide (a=b)) w
theorem sS (ho:cZ P t){xs:Array Value}{i:Nat}{v:Value}(h:(xs.toList.drop i).take 1= [v])(w:World):(part t xs i).run P w= .ok v w:=by
  have h2:xs[i]? =some v:=by
    have:=congrArg (fun l=>l[0]?) h
    simpa [List.getElem?_take,List.getElem?_drop] using this
  simp [part,aAh ho,h2]
theorem aCm (ho:Agg P t)(hs:Sz P t n){xs:Array Value}{i:Nat}(w:World):(part t xs i).run P w= .ok (.agg ((xs.toList.drop i).take n).toArray) w:=by
 simp only [part,Sem.run_bind,aAk ho,Result.andThen_ok,if_true,bZ hs,Sem.run_pure];congr 2;apply Array.ext';simp
theorem EqF.int {kk:IntKind}(hu:P.underlying t=some (.int kk)):EqF P t (Fl.int kk) 1:=by
 have ho:cZ P t:=by unfold cZ; rw [hu]; rfl
 intro D xs ys i a b w h1 h2;refine ⟨_,_,sS ho h1 w,sS ho h2 w,?_⟩;rw [run_equalIn_int w D t kk kk _ _ hu];rfl
theorem EqF.bool (hu:P.underlying t=some .bool):EqF P t Fl.bool 1:=by
 have ho:cZ P t:=by unfold cZ; rw [hu]; rfl
 intro D xs ys i a b w h1 h2;refine ⟨_,_,sS ho h1 w,sS ho h2 w,?_⟩;rw [run_equalIn_bool' w D t _ _ hu];rfl
theorem beq_bs {a b:Str}:(bs a==bs b)=true↔decide (a=b)=true:=by
 rw [decide_eq_true_eq,beq_toListBytes,beq_iff_eq,ByteArray.toList_eq,ByteArray.toList_eq];simp [bs]
theorem EqF.str (hu:P.underlying t=some .string):EqF P t Fl.str 1:=by
 have ho:cZ P t:=by unfold cZ; rw [hu]; rfl
 intro D xs ys i a b w h1 h2;refine ⟨_,_,sS ho h1 w,sS ho h2 w,?_⟩;rw [run_equalIn_string w D t _ _ hu];congr 1;rw [Bool.eq_iff_iff];rw [← beq_toListBytes];exact beq_bs
theorem EqF.arr [DecidableEq α] {k : Nat} (hu : P.underlying t = some (.array n u)) (hs : Sz P u e.sz) (hsn : Sz P t (n * e.sz)) (he : EqF P u e k) : EqF P t (Fl.arr n e) (k + 1) := by
  have ho : Agg P t := by unfold Agg; rw [hu]; rfl
  intro D xs ys i a b w h1 h2
  have h1 : (xs.toList.drop i).take (n * e.sz) = (Fl.arr n e).f a := h1
  have h2 : (ys.toList.drop i).take (n * e.sz) = (Fl.arr n e).f b := h2
  refine ⟨_, _, aCm ho hsn w, aCm ho hsn w, ?_⟩
  rw [h1, h2]
  unfold Sz at hs
  cases hi : P.info? u with
  | none => rw [hi] at hs; cases hs
  | some inf =>
    have hc : P.cellsOf u = e.sz := by
      rw [hi] at hs; simp at hs
      simp [Program.cellsOf, hi, hs]
    have e0 : D + (k + 1) = (D + k) + 1 := by omega
    rw [e0, run_equalIn_array w (D + k) _ _ hu hi, hc]
    have key : ∀ (is : List Nat), (∀ j ∈ is, j < n) → (Op.eqItems (D + k) u e.sz ((Fl.arr n e).f a).toArray ((Fl.arr n e).f b).toArray is).run P w = .ok (decide (∀ j ∈ is, a.l[j]? = b.l[j]?)) w := by
      intro is
      induction is with
      | nil => intro _; simp [Op.eqItems]
      | cons j is ih =>
        intro hj
        have hjn := hj j List.mem_cons_self
        have ga : a.l[j]? = some (a.l[j]'(by rw [a.h]; exact hjn)) := List.getElem?_eq_getElem _
        have gb : b.l[j]? = some (b.l[j]'(by rw [b.h]; exact hjn)) := List.getElem?_eq_getElem _
        obtain ⟨u', v', p1, p2, p3⟩ := he D ((Fl.arr n e).f a).toArray ((Fl.arr n e).f b).toArray (j * e.sz) _ _ w (aQl ga) (aQl gb)
        have ih := ih (fun j hj' => hj j (List.mem_cons_of_mem _ hj'))
        simp only [Op.eqItems, Sem.run_bind, p1, p2, p3, Result.andThen_ok]
        by_cases hab : a.l[j]'(by rw [a.h]; exact hjn) = b.l[j]'(by rw [b.h]; exact hjn)
        · simp only [hab, decide_true, Bool.not_true, Bool.false_eq_true, if_false, ih]
          simp [ga, gb, hab]
        · simp only [hab, decide_false, Bool.not_false, if_true]
          simp [ga, gb, hab]
    rw [key (List.range n) (fun j hj => List.mem_range.1 hj)]
    congr 1
    rw [decide_eq_decide]
    constructor
    · intro h
      apply Arr.ext
      apply List.ext_getElem?
      intro j
      by_cases hj : j < n
      · exact h j (List.mem_range.2 hj)
      · rw [List.getElem?_eq_none (by rw [a.h]; omega), List.getElem?_eq_none (by rw [b.h]; omega)]
    · intro h j _; rw [h]
def EqFs (P:Program)(fs:List Field)(o:Nat)(e:Fl α) [DecidableEq α] (k:Nat):Prop:=
  ∀D (xs ys:Array Value) (a b:α) (w:World),(xs.toList.drop o).take e.sz=e.f a→(ys.toList.drop o).take e.sz=e.f b→(Op.eqFields (D+k) xs ys fs).run P w= .ok (decide (a=b)) w
theorem EqFs.one [DecidableEq α] {f:Field}{k:Nat}(ho:f.offset=o)(hn:f.name≠ "_")(h:EqF P f.type e k):EqFs P [f] o e k:=by
 subst ho;intro D xs ys a b w h1 h2;obtain ⟨u,v,p1,p2,p3⟩:=h D xs ys _ a b w h1 h2;simp only [Op.eqFields,hn,ne_eq,not_false_eq_true,if_true,Sem.run_bind,p1,p2,p3,Result.andThen_ok];by_cases hab:a=b<;>simp [hab]
theorem EqFs.cons {β : Type} [DecidableEq α] [DecidableEq β] {e' : Fl β} {f : Field} {fs : List Field} {k : Nat} (ho : f.offset = o) (hn : f.name ≠ "_") (h : EqF P f.type e k) (h' : EqFs P fs (o + e.sz) e' k) : EqFs P (f :: fs) o (Fl.pair e e') k := by
  subst ho
  intro D xs ys a b w h1 h2
  have t1 : ∀ (zs : Array Value) (c : α × β), (zs.toList.drop f.offset).take (e.sz + e'.sz) = e.f c.1 ++ e'.f c.2 → (zs.toList.drop f.offset).take e.sz = e.f c.1 ∧ (zs.toList.drop (f.offset + e.sz)).take e'.sz = e'.f c.2 := by
    intro zs c h
    constructor
    · have := congrArg (List.take e.sz) h
      rw [List.take_take, Nat.min_eq_left (by omega), List.take_left' (e.len _)] at this
      exact this
    · have := congrArg (List.drop e.sz) h
      rw [List.drop_take, List.drop_drop, Nat.add_sub_cancel_left, List.drop_left' (e.len _)] at this
      exact this
  obtain ⟨u, v, p1, p2, p3⟩ := h D xs ys _ a.1 b.1 w (t1 xs a h1).1 (t1 ys b h2).1
  have q := h' D xs ys a.2 b.2 w (t1 xs a h1).2 (t1 ys b h2).2
  simp only [Op.eqFields, hn, ne_eq, not_false_eq_true, if_true, Sem.run_bind, p1, p2, p3, Result.andThen_ok]
  obtain ⟨a1, a2⟩ := a
  obtain ⟨b1, b2⟩ := b
  by_cases hab : a1 = b1
  · simp [hab, q]
  · simp [hab]
theorem EqF.struct {β:Type} [DecidableEq α] [DecidableEq β] {fs:Array Field}{k:Nat}{g:β→α}(hg: ∀x y,g x=g y→x=y)(hu:P.underlying t=some (.struct fs))(hp:P.stoodInHeld t=false)(hs:Sz P t e.sz)(h:EqFs P fs.toList 0 e k):EqF P t (Fl.iso e g) (k+1):=by
 have ho:Agg P t:=by unfold Agg; rw [hu]; rfl
 have hf:P.fieldsOf t=fs:=by simp [Program.fieldsOf,hu]
 intro D xs ys i a b w h1 h2;have h1:(xs.toList.drop i).take e.sz=e.f (g a):=h1;have h2:(ys.toList.drop i).take e.sz=e.f (g b):=h2;refine ⟨_,_,aCm ho hs w,aCm ho hs w,?_⟩;rw [h1,h2];have e0:D+(k+1)=(D+k)+1:=by omega
 rw [e0,run_equalIn_struct w (D+k) t _ _ (by rw [hf]; exact hu) hp,hf,h D _ _ (g a) (g b) w (by simp [List.take_of_length_le,e.len]) (by simp [List.take_of_length_le,e.len])];congr 1;rw [decide_eq_decide];exact ⟨hg a b,fun h=>by rw [h]⟩
end
end Go.Lf
namespace Go.Lf
open Go.RowKit Go.OB Go.ChangeShapes Go.WideShapes Go.ChangeAt
section
variable {H:Type} {enc:TypeId×Value→H} {P:Program} {w:World} {base:Nat} {sp:Nat→Bool} {held:Bool}
def All (_:Nat):Prop:=True
def aF (enc:TypeId×Value→H)(P:Program)(w:World)(base:Nat)(sp:Nat→Bool)(held:Bool)(t:TypeId){α:Type}(r:Rp α)(ok:α→Prop):Prop:=
  ∀fuel cs x,DataW.trod enc P w base sp held fuel t cs=some x→ ∃a,r.rd All w cs a∧ok a
theorem opens_int {t:TypeId}{k:IntKind}(ht:P.underlying t=some (.int k)):aF enc P w base sp held t (Rp.int k) (fun z=>(Lit.int k z).wf=true):=by
 intro fuel cs x h;obtain ⟨z,h1,_,h2⟩:=DataW.trod_int ht h;exact ⟨z,h1,h2⟩
theorem aSg {t:TypeId}(ht:P.underlying t=some .bool):aF enc P w base sp held t Rp.bool (fun _=>True):=by
 intro fuel cs x h;obtain ⟨b,h1,_⟩:=DataW.trod_bool ht h;exact ⟨b,h1,trivial⟩
theorem opens_str {t : TypeId} (ht : P.underlying t = some .string) : aF enc P w base sp held t Rp.str (fun s => s.length ≤ 9223372036854775807) := by
 intro fuel cs x h;obtain ⟨s, h1, _, h2⟩ := DataW.trod_string ht h;refine ⟨s.data.toList, ?_, ?_⟩;rw [h1]; rfl;have h3 := h2;rw [maxLen_eq] at h3;show s.data.toList.length ≤ _;rw [Array.length_toList];exact h3
theorem aAz {a:Addr}{n:Nat}{cs:List Value}(h:w.cells? base a n=some cs):cs.length=n∧ ∀i v,cs[i]? =some v→w.cell? (a.add i)=some v:=by
 obtain ⟨_,h1,h2⟩:=World.cells?_some h;refine ⟨h1,fun i v hv=>?_⟩;have hi:i<n:=by have:=(List.getElem?_eq_some_iff.1 hv).1; omega
 rw [h2 i hi]; exact hv
theorem add_add (a : Addr) (p q : Nat) : (a.add p).add q = a.add (p + q) := by
 unfold Addr.add;by_cases h6 : p = 0;subst h6; simp;by_cases h7 : q = 0;subst h7; simp;rw [if_neg h6, if_neg h7, if_neg (by omega)]; simp [Nat.add_assoc]
theorem uN {a : Addr} {v : Value} (h : w.cell? a = some v) : a.spot = none := by
 unfold World.cell? at h;split at h;split at h;cases h;rename_i hs; simpa using hs;cases h
theorem gather {e : TypeId} {α : Type} {r : Rp α} {ok : α → Prop} {a : Addr} (he : aF enc P w base sp held e r ok) (len : Nat)
    (hel : ∀ i, i < len → ∃ cs' n d, w.cells? base (a.add (i * r.sz)) r.sz = some cs' ∧ DataW.trod enc P w base sp held n e cs' = some d) :
    ∀ n, n ≤ len → ∃ (xs : List Value) (l : List α), rows r All w xs l ∧ l.length = n ∧ (∀ k v, xs[k]? = some v → w.cell? (a.add k) = some v) ∧ ∀ x ∈ l, ok x
  | 0, _ => ⟨[], [], rfl, rfl, by simp, by simp⟩
  | n + 1, hn => by
    obtain ⟨xs, l, h1, h2, h3, h4⟩ := gather he len hel n (by omega)
    obtain ⟨c, m, d, h5, h6⟩ := hel n (by omega)
    obtain ⟨y, h7, h8⟩ := he _ _ _ h6
    obtain ⟨h9, h10⟩ := aAz h5
    have hx := aI h1
    refine ⟨xs ++ c, l ++ [y], mG h1 (rO h7), by simp [h2], fun k v hv => ?_, fun x hx => ?_⟩
    · by_cases hk : k < xs.length
      · rw [List.getElem?_append_left hk] at hv; exact h3 k v hv
      · rw [List.getElem?_append_right (by omega)] at hv
        have := h10 _ v hv
        rwa [add_add, show n * r.sz + (k - xs.length) = k by rw [hx, h2] at hk ⊢; omega] at this
    · rcases List.mem_append.1 hx with h | h
      · exact h4 x h
      · obtain rfl := List.mem_singleton.1 h; exact h8
theorem qU {t e : TypeId} {α : Type} {r : Rp α} {ok : α → Prop} (ht : P.underlying t = some (.slice e)) (hc : P.cellsOf e = r.sz) (hpos : 0 < r.sz) (he : aF enc P w base sp held e r ok) :
    aF enc P w base sp held t (Rp.sl r) (fun l => l.length ≤ 9223372036854775807 ∧ ∀ x ∈ l, ok x) := by
  intro fuel cs x h
  rcases Deep.open_slice ht h with ⟨rfl, _⟩ | ⟨a, len, cap, m, n, D, Pl, rfl, hb, hl, hm, hmm, _, hel⟩
  · exact ⟨[], ⟨_, rfl, SlF.nil⟩, by simp, by simp⟩
  · have hle : len ≤ m := by rw [hmm]; split <;> omega
    rw [maxLen_eq] at hm
    obtain ⟨xs, l, h1, h2, h3, h4⟩ := gather (a := a) he len (fun i hi => by
      obtain ⟨c, h1, h2⟩ := hel i (by omega)
      exact ⟨c, n, _, by rw [← hc]; exact h1, h2⟩) len (Nat.le_refl _)
    have hx := aI h1
    have hsp : 0 < len → a.spot = none ∧ a.block < w.heap.size := by
      intro h0
      have hx0 : 0 < xs.length := by rw [hx, h2]; exact Nat.mul_pos h0 hpos
      have := h3 0 xs[0] (List.getElem?_eq_getElem hx0)
      have e0 : a.add 0 = a := by simp [Addr.add]
      rw [e0] at this
      exact ⟨uN this, World.block_lt_of_cell? _ _ this⟩
    refine ⟨l, ⟨_, rfl, xs, h1, ⟨hx, .inr ⟨a, cap, by rw [h2], by omega, by rw [maxLen_eq]; omega, fun h => (hsp (by omega)).1, h3⟩⟩, fun h b hb => ⟨trivial, ?_⟩⟩, by omega, h4⟩
    have : b = a.block := by simpa [aH, eq_comm] using hb
    rw [this]; exact (hsp (by omega)).2
def tZ (P:Program)(t:TypeId)(i:Nat):Option (TypeId×Nat):=
  match P.underlying t with
  | some (.struct fs)=>(fs[i]?).map fun f=>(f.type,f.offset)
  | _=>none
theorem aQc {t ft : TypeId} {i off fuel : Nat} {cs : List Value} {x : DataW H × List MemPlace} (hf : tZ P t i = some (ft, off)) (h : DataW.trod enc P w base sp held fuel t cs = some x) :
    ∃ n y, DataW.trod enc P w base sp held n ft ((cs.drop off).take (P.cellsOf ft)) = some y := by
 unfold tZ at hf;split at hf;rename_i fs hu;obtain ⟨f, hf1, hf2⟩ := Option.map_eq_some_iff.1 hf;obtain ⟨xs, n, rfl, _, _, hlen, hget⟩ := DataW.trod_struct hu h;have hi := hget i f hf1;have hlt : i < xs.length := by rw [hlen]; exact (Array.getElem?_eq_some_iff.1 hf1).1
 rw [List.getElem?_eq_getElem hlt] at hi;have e1 : f.type = ft := congrArg Prod.fst hf2;have e2 : f.offset = off := congrArg Prod.snd hf2;rw [e1, e2] at hi;exact ⟨n, _, hi⟩;cases hf
theorem jH {t ft : TypeId} {i off fuel : Nat} {cs : List Value} {x : DataW H × List MemPlace} (hf : tZ P t i = some (ft, off)) (h : DataW.trod enc P w base sp held fuel t cs = some x) : cs.length = P.cellsOf t := by
 unfold tZ at hf;split at hf;rename_i fs hu;obtain ⟨xs, n, _, _, hl, _⟩ := DataW.trod_struct hu h;exact hl;cases hf
theorem wE {t ft:TypeId}{α:Type}{r:Rp α}{ok:α→Prop}{i off fuel s:Nat}{cs:List Value}{x:DataW H×List MemPlace}(he:aF enc P w base sp held ft r ok)(hf:tZ P t i=some (ft,off))(hc:P.cellsOf ft=s)(h:DataW.trod enc P w base sp held fuel t cs=some x):
    ∃a,r.rd All w ((cs.drop off).take s) a∧ok a:=by
 obtain ⟨n,y,h1⟩:=aQc hf h;rw [hc] at h1;exact he _ _ _ h1
theorem dM {α β:Type}{a:Rp α}{b:Rp β}{F:Nat→Prop}{cs:List Value}{o m s u:Nat}{x:α}{y:β}(hx:a.rd F w ((cs.drop o).take s) x)(hy:b.rd F w ((cs.drop m).take u) y)(e:o+s=m):(Rp.pair a b).rd F w ((cs.drop o).take (s+u)) (x,y):=by
 subst e;refine ⟨_,_,?_,hx,hy⟩;rw [List.take_add,List.drop_drop]
end
end Go.Lf
namespace Go.Lf
open Go.RowKit Go.OB Go.ChangeShapes Go.WideShapes Go.ChangeAt
def i64 (z:Int):Prop:= -9223372036854775808≤z∧z≤9223372036854775807
def okS (s:Str):Prop:=s.length≤9223372036854775807
def okL {α:Type}(ok:α→Prop)(l:List α):Prop:=l.length≤9223372036854775807∧ ∀x ∈ l,ok x
theorem opens_i64 {H:Type}{enc:TypeId×Value→H}{P:Program}{w:World}{base:Nat}{sp:Nat→Bool}{held:Bool}{t:TypeId}(ht:P.underlying t=some (.int .i64)):aF enc P w base sp held t (Rp.int .i64) (fun z=>i64 z):=by
 intro fuel cs x h;obtain ⟨z,h1,h2⟩:=opens_int ht fuel cs x h;exact ⟨z,h1,bounds_i64 h2⟩
def isAgg? (P:Program)(t:TypeId):Bool:=match P.underlying t with
  | some (.struct _)=>true
  | _=>false
theorem aIf {P : Program} {w : World} {r : Reach} {base : Nat} {t : TypeId} {v : Value} (ht : isAgg? P t = true) (h : Value.okWide P w r base t v) : ∃ cs, v = .agg cs := by
 unfold isAgg? at ht;unfold Value.okWide at h;split at ht;rename_i fs hu;rw [hu] at h;obtain ⟨cs, h1, _⟩ := h;exact ⟨cs, h1⟩;cases ht
theorem wS {α:Type}{r:Rp α}{w:World}{v:Value}{l:List α}(h:SlF r All w v l):SlF r (frees [] []) w v l:=
  SlF.mono (fun b _ _=>⟨⟨by simp,by simp [bks]⟩,rfl⟩) h
theorem Hd.fresh0 (w:World):Hd [] w w [] []:=⟨Only.refl _ w,by simp,by simp,by simp [bks],by simp⟩
end Go.Lf
namespace Go.Lf
open Go.RowKit Go.OB
section
variable {P:Program} {N:Nat} {Q:Exit→Env→World→Prop} {ρ:Env} {w w0 w1 w':World} {O S:List Nat} {l l2:List Th} {i:Nat}
theorem oS: ∀w w',Only S w0 w→fJ w w'→Only S w0 w':=fun _ _ h hs=>h.step (Only.of_below hs) (by simp)
theorem Hd.rebase (H:Hd O w0 w S l):Hd O w w (bks l) l:=
  ⟨Only.refl _ w,H.holds,fun it hm b hb=>⟨.inr (dQ.2 ⟨it,hm,hb⟩),(H.own it hm b hb).2⟩,H.nd,fun b hb=>⟨Nat.lt_of_lt_of_le (H.fo b hb).1 H.only.size,fun hm=>by
    obtain ⟨it,hi,hbi⟩:=dQ.1 hm
    exact H.notO hi hbi hb⟩⟩
theorem Hd.rejoin (H:Hd O w0 w S l)(G:Hd O w w' (bks l) l2):Hd O w0 w' S l2:=by
  have in0: ∀b ∈ bks l,w0.heap.size≤b∨b ∈ S:=fun b hb=>by
    obtain ⟨it,hi,hbi⟩:=dQ.1 hb
    exact (H.own it hi b hbi).1
  refine ⟨H.only.step G.only in0,G.holds,fun it hm b hb=>⟨?_,(G.own it hm b hb).2⟩,G.nd,H.fo⟩
  rcases (G.own it hm b hb).1 with h | h
  · exact .inl (Nat.le_trans H.only.size h)
  · exact in0 b h
theorem Hd.firm (H:Hd O w w (bks l) l){p:Fz}(hi:l[i]? =some (.fz p)): ∀w',Only (bks l) w w'→p.p (frees O l) w':=fun _ ho=>
  p.mono (fun b hb hl=>⟨hb,ho.block b hl hb.2⟩) (H.item hi)
theorem Hd.firmC (_H:Hd O w w (bks l) l){b o:Nat}{cs:List Value}(h1:frees O l b)(h2:b<w.heap.size)(hc:Cells w ⟨b,o,none⟩ cs): ∀w',Only (bks l) w w'→Cells w' ⟨b,o,none⟩ cs:=fun _ ho=>
  (Cells.same (F:=frees O l) (F':=frees O l) (fun b hb hl=>⟨hb,ho.block b hl hb.2⟩) h1 h2 hc).2.2
theorem Fz.all {F:Nat→Prop}{p:Fz}(h:p.p F w):p.p (frees [] []) w:=p.mono (fun b _ _=>⟨by simp [frees,bks],rfl⟩) h
theorem noMk {κ:List MxM.Kd}(h:κ.all (fun k=> !k.isMk)=true)(i B:Nat):MxM.kdOf κ i≠ .mk B:=by
  intro e
  unfold MxM.kdOf at e
  rw [List.getD_eq_getElem?_getD] at e
  cases hx:κ[i]? with
  | none=>rw [hx] at e; cases e
  | some k=>
    rw [hx] at e
    have q:=List.all_eq_true.1 h k (List.mem_of_getElem? hx)
    have e:k= .mk B:=e
    subst e
    cases q
def kz (l:List Nat):List MxM.Kd:=l.map fun n=>match n with
  | 0=> .pure
  | 1=> .read
  | 2=> .new
  | 3=> .eff
  | _=> .fcall
theorem WP_mix {id:Nat}{c:List Oper}(_H:Hd O w w S l)(σ:List Nat)(κ:List MxM.Kd)(hm:P.follows .mixedOrders=true)(h:MxM.XL P (fun w'=>Only S w w') N c.toArray κ (fun _ ρ w=>Q .normal ρ w) (some fun _=>False) σ (MxM.sel c σ) ρ w)
    (hs:Region.noSelect c.toArray=true:=by kernel_rfl)(hed:MxM.edgesB .any c.toArray=true:=by kernel_rfl)(hp:MxM.pairB .any c.toArray (MxM.kdOf κ) σ=true:=by kernel_rfl)(hσ:σ.isPerm (List.range c.length)=true:=by decide)(hk:κ.all (fun k=> !k.isMk)=true:=by rfl):WP P N (.region id c.toArray true) Q ρ w:=
  MxM.WP_mix σ κ (fun i B e=>absurd e (noMk hk i B)) hm hs hed hp hσ (fun _ _=>oS _ _) (Only.refl S w) h
theorem xP {id:Nat}{c:List Oper}(_H:Hd O w w S l)(σ:List Nat)(κ:List MxM.Kd)(hm:P.follows .mixedOrders=true)(h:MxM.XL P (fun w'=>Only S w w') N c.toArray κ (fun _ ρ w=>Q .normal ρ w) (some fun _=>False) σ c ρ w)
    (hs:Region.noSelect c.toArray=true:=by kernel_rfl)(hed:MxM.edgesB .any c.toArray=true:=by kernel_rfl)(hp:MxM.pairB .any c.toArray (MxM.kdOf κ) σ=true:=by kernel_rfl)(hσ:σ=List.range c.length:=by rfl)(hk:κ.all (fun k=> !k.isMk)=true:=by rfl):WP P N (.region id c.toArray true) Q ρ w:=
  MxM.xP σ κ (fun i B e=>absurd e (noMk hk i B)) hm hs hed hp hσ (fun _ _=>oS _ _) (Only.refl S w) h
end
section
variable {P:Program} {ρ:Env} {w w0 w1:World} {d:Option Tmp} {x y z:Operand} {t u ty e:TypeId} {pos:String} {af:Array Edge} {g:Option (Nat×Bool)}
variable {v:Value} {b o i n c s:Nat} {k k':IntKind} {cs xs vs:List Value} {T:TypeId} {O S:List Nat} {l:List Th} {α:Type} {r:Rp α} {xl yl zl:List α} {a:α} {j:Int} {F:Nat→Prop}
theorem rU {R:Value→World→Prop}{Y:Value→World→Prop}{op:Oper}(h: ∃v w',Do P op ρ w v w'∧R v w')(k: ∃v w',Do P op ρ w v w'∧Y v w'): ∃v w',Do P op ρ w v w'∧Y v w'∧R v w':=by
  obtain ⟨v,w',h1,h2⟩:=h
  obtain ⟨v2,w2,k1,k2⟩:=k
  have:v=v2∧w'=w2:=by
    unfold Do at h1 k1
    rw [h1] at k1
    injection k1 with a b
    injection a with a
    exact ⟨a,b⟩
  obtain ⟨rfl,rfl⟩:=this
  exact ⟨v,w',h1,k2,h2⟩
theorem aPq (hz:Zero P t cs): ∃v w',Do P ⟨d,.alloc t,ty,pos,af,g⟩ ρ w v w'∧fJ w w':=by
 obtain ⟨v,w',h1,b,h2,h3⟩:=aNd (P:=P) (ρ:=ρ) (w:=w) (d:=d) (ty:=ty) (pos:=pos) (af:=af) (g:=g) hz;exact ⟨v,w',h1,h3.only.below⟩
theorem aDy (hx:ev ρ x= .agg cs.toArray): ∃v w',Do P ⟨d,.box t x,ty,pos,af,g⟩ ρ w v w'∧fJ w w':=by
 obtain ⟨v,w',h1,b,h2,h3⟩:=Ex_box (P:=P) (ρ:=ρ) (w:=w) (d:=d) (ty:=ty) (pos:=pos) (af:=af) (g:=g) (t:=t) hx;exact ⟨v,w',h1,h3.only.below⟩
theorem aUy {len bytes s:Nat}{zs:List Value}{parts:Array (Nat×Operand)}(hu:P.underlying t=some (.slice e))(he:El P e s bytes zs)(hsmall:len * s≤16777216)(hpos:0<len * s)
    (hf:rQ s len zs (parts.toList.map fun p=>(p.1,ev ρ p.2))=some cs): ∃v w',Do P ⟨d,.buildSlice t len parts,ty,pos,af,g⟩ ρ w v w'∧fJ w w':=by
 obtain ⟨v,w',h1,b,rfl,hA⟩:=Ex_bs (P:=P) (ρ:=ρ) (w:=w) (d:=d) (ty:=ty) (pos:=pos) (af:=af) (g:=g) hu he hsmall hpos hf;exact ⟨_,w',h1,hA.only.below⟩
end
end Go.Lf
