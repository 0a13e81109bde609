/- Laws that the claim stands on; no condition beyond those stated. -/
import Derived.Test.YtibkjjklfhfipadGreatDoorXVp
import Derived.Test.YtibkjjklfhfipadGreatDoorLfT
namespace Go.Lf
open Go.RowKit Go.OB
structure gY where
 N:Int
 Known:Bool
 deriving DecidableEq
def dE:Rp gY:=Rp.iso (Rp.pair (Rp.int .i64) Rp.bool) λx=>(x.N,x.Known)
theorem kM {F:Nat->Prop}{w:World}{cs:List Value}{x:gY}(h:dE.rd F w cs x):cs=[.int .i64 x.N,.bool x.Known]:=by
 obtain⟨_,_,rfl,rfl,rfl⟩:=h;exact rfl
theorem sQ {F:Nat->Prop}{w:World}{x:gY}:dE.rd F w [.int .i64 x.N,.bool x.Known] x:=⟨[_],_,rfl,rfl,rfl⟩
structure tH where
 truth:Int
 deriving DecidableEq
structure nM where
 track:Int
 op:Int
 n:Int
 deriving DecidableEq
structure rZ where
 a:Int
 b:Int
 denA:Int
 denB:Int
 op:Int
 deriving DecidableEq
structure qK where
 phase:Int
 deriving DecidableEq
structure aDc where
 rule:Int
 deriving DecidableEq
inductive Nd where
 |constant (truth:Int)
 |number (track:Int) (op:Int) (n:Int)
 |pair (a:Int) (b:Int) (denA:Int) (denB:Int) (op:Int)
 |steady (track:Int) (n:Int) (frames:Int) (last:List gY)
 |phase (phase:Int)
 |rule (rule:Int)
 |not (kid:Nd)
 |group (kids:List Nd) (any:Bool)
 |count (kid:Nd) (n:Int) (frames:Int) (last:List Int) (totals:Arr 3 Int)
 |since (while_:Nd) (from_:Nd) (last:Int) (begun:Bool)
 |rises (kid:Nd) (last:Int) (begun:Bool)
mutual
inductive NdO (F:Nat->Prop) (w:World):Value->List Nat->Nd->Prop
 |constant {truth:Int}:NdO F w (.iface 235 (.agg ([.int .i64 truth]).toArray)) [] (.constant truth)
 |number {track:Int}{op:Int}{n:Int}:NdO F w (.iface 237 (.agg ([.int .i64 track,.int .i64 op,.int .i64 n]).toArray)) [] (.number track op n)
 |pair {a:Int}{b:Int}{denA:Int}{denB:Int}{op:Int}:NdO F w (.iface 239 (.agg ([.int .i64 a,.int .i64 b,.int .i64 denA,.int .i64 denB,.int .i64 op]).toArray)) [] (.pair a b denA denB op)
 |steady {track:Int}{n:Int}{frames:Int}{last:List gY}{b:Nat}{vlast:Value}{blast:List Nat}:(Rt.row (Rt.of dE) 72 []).rd F w [vlast] blast last->Blk w b ([.int .i64 track,.int .i64 n,.int .i64 frames,vlast]) 242->NdO F w (.iface 240 (.pointer (some ⟨b,0,none⟩))) (blast++[b]) (.steady track n frames last)
 |phase {phase:Int}:NdO F w (.iface 244 (.agg ([.int .i64 phase]).toArray)) [] (.phase phase)
 |rule {rule:Int}:NdO F w (.iface 246 (.agg ([.int .i64 rule]).toArray)) [] (.rule rule)
 |not {kid:Nd}{b:Nat}{vkid:Value}{bkid:List Nat}:NdO F w vkid bkid kid->Blk w b ([vkid]) 249->NdO F w (.iface 247 (.pointer (some ⟨b,0,none⟩))) (bkid++[b]) (.not kid)
 |group {kids:List Nd}{any:Bool}{b:Nat}{vkids:Value}{bkids:List Nat}{xkids:List Value}{ckids:List Nat}:NdsO F w xkids ckids kids->OwO w 196 1 vkids kids.length xkids->bkids=ob vkids++ckids->Blk w b ([vkids,.bool any]) 252->NdO F w (.iface 250 (.pointer (some ⟨b,0,none⟩))) (bkids++[b]) (.group kids any)
 |count {kid:Nd}{n:Int}{frames:Int}{last:List Int}{totals:Arr 3 Int}{b:Nat}{vkid:Value}{bkid:List Nat}{vlast:Value}{blast:List Nat}:NdO F w vkid bkid kid->(Rt.row (Rt.of (Rp.int .i64)) 3 []).rd F w [vlast] blast last->Blk w b ([vkid,.int .i64 n,.int .i64 frames,vlast]++((Fl.arr 3 (Fl.int .i64)).f totals)) 256->NdO F w (.iface 253 (.pointer (some ⟨b,0,none⟩))) (bkid++(blast++[b])) (.count kid n frames last totals)
 |since {while_:Nd}{from_:Nd}{last:Int}{begun:Bool}{b:Nat}{vwhile_:Value}{bwhile_:List Nat}{vfrom_:Value}{bfrom_:List Nat}:NdO F w vwhile_ bwhile_ while_->NdO F w vfrom_ bfrom_ from_->Blk w b ([vwhile_,vfrom_,.int .i64 last,.bool begun]) 259->NdO F w (.iface 257 (.pointer (some ⟨b,0,none⟩))) (bwhile_++(bfrom_++[b])) (.since while_ from_ last begun)
 |rises {kid:Nd}{last:Int}{begun:Bool}{b:Nat}{vkid:Value}{bkid:List Nat}:NdO F w vkid bkid kid->Blk w b ([vkid,.int .i64 last,.bool begun]) 262->NdO F w (.iface 260 (.pointer (some ⟨b,0,none⟩))) (bkid++[b]) (.rises kid last begun)
inductive NdsO (F:Nat->Prop) (w:World):List Value->List Nat->List Nd->Prop
 |nil:NdsO F w [] [] []
 |cons {v:Value}{b:List Nat}{x:Nd}{vs:List Value}{bs:List Nat}{l:List Nd}:NdO F w v b x->NdsO F w vs bs l->NdsO F w (v::vs) (b++bs) (x::l)
end
section
variable {F F':Nat->Prop}{w w':World}{v:Value}{bs:List Nat}{x:Nd}
theorem NdO.mono (t:Same F F' w w')(h:NdO F w v bs x):(∀k∈bs,w'.heap[k]? =w.heap[k]?)->NdO F' w' v bs x:=by
 refine NdO.rec (motive_1:=λv bs x _=>(∀k∈bs,w'.heap[k]? =w.heap[k]?)->NdO F' w' v bs x) (motive_2:=λvs bs l _=>(∀k∈bs,w'.heap[k]? =w.heap[k]?)->NdsO F' w' vs bs l) ?_ ?_ ?_ ?_ ?_ ?_ ?_ ?_ ?_ ?_ ?_ ?_ ?_ h;intros;exact .constant;intros;exact .number;intros;exact .pair;intros;rename_i d f a;exact .steady (Rt.mono _ t (λx b=>a x (List.mem_append_left _ b)) d) (pY f (a _ (List.mem_append_right _ (mS.2 rfl))));intros;exact .phase;intros;exact .rule;intros;rename_i n f c a;exact .not (c λx b=>a x (List.mem_append_left _ b)) (pY f (a _ (List.mem_append_right _ (mS.2 rfl))));intros;rename_i _ o e f p a;exact .group (p λx b=>a x (List.mem_append_left _ (by rw [e];exact List.mem_append_right _ b))) (OwO.same o λx b=>a x (List.mem_append_left _ (by rw [e];exact List.mem_append_left _ b))) e (pY f (a _ (List.mem_append_right _ (mS.2 rfl))));intros;rename_i n d f c a;exact .count (c λx b=>a x (List.mem_append_left _ b)) (Rt.mono _ t (λx b=>a x (List.mem_append_right _ (List.mem_append_left _ b))) d) (pY f (a _ (List.mem_append_right _ (List.mem_append_right _ (mS.2 rfl)))));intros;rename_i _ _ f i j a;exact .since (i λx b=>a x (List.mem_append_left _ b)) (j λx b=>a x (List.mem_append_right _ (List.mem_append_left _ b))) (pY f (a _ (List.mem_append_right _ (List.mem_append_right _ (mS.2 rfl)))))
 intros;rename_i n f c a;exact .rises (c λx b=>a x (List.mem_append_left _ b)) (pY f (a _ (List.mem_append_right _ (mS.2 rfl))));intros;exact .nil;intros;rename_i _ _ u i2 a;exact .cons (u λx b=>a x (List.mem_append_left _ b)) (i2 λx b=>a x (List.mem_append_right _ b))
theorem NdO.one (h:NdO F w v bs x):v.oneCell'=true:=by cases h<;>rfl
end
def bI:Rt Nd:=⟨1,λF w cs bs x=> ∃v,cs=[v]/\NdO F w v bs x,λ⟨v,e,_⟩=>by subst e;rfl,λ⟨v,e,h⟩=>by subst e;simpa using h.one,λa b ⟨v,e,h⟩=>⟨v,e,h.mono a b⟩⟩
theorem aGc {F:Nat->Prop}{w:World}: ∀{l:List Nd}{i:Nat}{vs:List Value}{bs:List Nat},jM bI F w [] i vs bs l↔NdsO F w vs bs l
 | [],_,vs,bs=>⟨λh=>by rw [h.1,h.2];exact .nil,λh=>by cases h;exact⟨rfl,rfl⟩⟩
 |x::l,i,vs,bs=>by
  constructor
  ·rintro⟨c,d,e,f,rfl,rfl,a,b⟩;obtain⟨v,rfl,a⟩:=a;exact .cons a (aGc.1 b)
  ·intro h
   cases h with
   |cons a b=>exact⟨_,_,_,_,rfl,rfl,⟨_,rfl,a⟩,aGc.2 b⟩
structure dO where
 track:Int
 n:Int
 frames:Int
 last:List gY
structure pW where
 kid:Nd
structure jD where
 kids:List Nd
 any:Bool
structure dM where
 kid:Nd
 n:Int
 frames:Int
 last:List Int
 totals:Arr 3 Int
structure jB where
 while_:Nd
 from_:Nd
 last:Int
 begun:Bool
structure jC where
 kid:Nd
 last:Int
 begun:Bool
section hd
variable {w w0:World}{v:Value}{bs:List Nat}{O S:List Nat}{l:List Th}
theorem aKd {track n d:Int}{last:List gY}(H:Hd O w0 w S l)(i:Nat)(hi:l[i]? =some (.tr bI [v] bs (.steady track n d last))): ∃b a c,v=(.iface 240 (.pointer (some ⟨b,0,none⟩)))/\Hd O w0 w S (rest [i] l++[.tr (Rt.row (Rt.of dE) 72 []) [a] c last,.blk b ([.int .i64 track,.int .i64 n,.int .i64 d,a]) 242]):=by
 obtain⟨v1,j,h⟩:=H.V hi;obtain rfl:v=v1:=by simpa using j
 cases h with
 |steady e k=>
  rename_i b a c;refine⟨b,a,c,rfl,H.split i hi _ (by simp [bks,Th.blocks]) λx f=>?_⟩;simp only [List.mem_cons,List.not_mem_nil,or_false]at f;rcases f with rfl|rfl
  ·exact e
  ·exact k
theorem aGn {track n c:Int}{last:List gY}{b:Nat}{d:Value}{e:List Nat}(H:Hd O w0 w S l)(a h:Nat)(f:l[a]? =some (.tr (Rt.row (Rt.of dE) 72 []) [d] e last))(i:l[h]? =some (.blk b ([.int .i64 track,.int .i64 n,.int .i64 c,d]) 242))(j:[a,h].Nodup): ∃bs,Hd O w0 w S (rest [a,h] l++[.tr bI [(.iface 240 (.pointer (some ⟨b,0,none⟩)))] bs (.steady track n c last)]):=by
 refine⟨(e++[b]),H.unite [a,h] j _ ?_ ⟨_,rfl,.steady (H.V f) (H.V i)⟩⟩;simp [Go.Lf.pick,bks,Th.blocks,f,i]
theorem aUq {kid:Nd}(H:Hd O w0 w S l)(i:Nat)(hi:l[i]? =some (.tr bI [v] bs (.not kid))): ∃b a c,v=(.iface 247 (.pointer (some ⟨b,0,none⟩)))/\Hd O w0 w S (rest [i] l++[.tr bI [a] c kid,.blk b ([a]) 249]):=by
 obtain⟨v1,f,h⟩:=H.V hi;obtain rfl:v=v1:=by simpa using f
 cases h with
 |not d j=>
  rename_i b a c;refine⟨b,a,c,rfl,H.split i hi _ (by simp [bks,Th.blocks]) λx e=>?_⟩;simp only [List.mem_cons,List.not_mem_nil,or_false]at e;rcases e with rfl|rfl
  ·exact⟨a,rfl,d⟩
  ·exact j
theorem aPf {kid:Nd}{b:Nat}{c:Value}{d:List Nat}(H:Hd O w0 w S l)(a j:Nat)(e:l[a]? =some (.tr bI [c] d kid))(k:l[j]? =some (.blk b ([c]) 249))(n:[a,j].Nodup): ∃bs,Hd O w0 w S (rest [a,j] l++[.tr bI [(.iface 247 (.pointer (some ⟨b,0,none⟩)))] bs (.not kid)]):=by
 obtain⟨f,h,i⟩:=H.V e;obtain rfl:c=f:=by simpa using h
 refine⟨(d++[b]),H.unite [a,j] n _ ?_ ⟨_,rfl,.not i (H.V k)⟩⟩;simp [Go.Lf.pick,bks,Th.blocks,e,k]
theorem aNz {kids:List Nd}{any:Bool}(H:Hd O w0 w S l)(i:Nat)(hi:l[i]? =some (.tr bI [v] bs (.group kids any))): ∃b a c,v=(.iface 250 (.pointer (some ⟨b,0,none⟩)))/\Hd O w0 w S (rest [i] l++[.tr (Rt.row bI 196 []) [a] c kids,.blk b ([a,.bool any]) 252]):=by
 obtain⟨v1,o,h⟩:=H.V hi;obtain rfl:v=v1:=by simpa using o
 cases h with
 |group d e f p=>
  rename_i b a c _ _;refine⟨b,a,c,rfl,H.split i hi _ (by simp [bks,Th.blocks]) λx n=>?_⟩;simp only [List.mem_cons,List.not_mem_nil,or_false]at n;rcases n with rfl|rfl
  ·exact⟨a,_,_,rfl,f,aGc.2 d,e⟩
  ·exact p
theorem aIn {kids:List Nd}{any:Bool}{b:Nat}{c:Value}{d:List Nat}(H:Hd O w0 w S l)(a n:Nat)(e:l[a]? =some (.tr (Rt.row bI 196 []) [c] d kids))(o:l[n]? =some (.blk b ([c,.bool any]) 252))(p:[a,n].Nodup): ∃bs,Hd O w0 w S (rest [a,n] l++[.tr bI [(.iface 250 (.pointer (some ⟨b,0,none⟩)))] bs (.group kids any)]):=by
 obtain⟨f,_,_,h,i,j,k⟩:=H.V e;obtain rfl:c=f:=by simpa using h
 refine⟨(d++[b]),H.unite [a,n] p _ ?_ ⟨_,rfl,.group (aGc.1 j) k i (H.V o)⟩⟩;simp [Go.Lf.pick,bks,Th.blocks,e,o]
theorem aOa {kid:Nd}{n e:Int}{last:List Int}{j:Arr 3 Int}(H:Hd O w0 w S l)(i:Nat)(hi:l[i]? =some (.tr bI [v] bs (.count kid n e last j))): ∃b c k a d,v=(.iface 253 (.pointer (some ⟨b,0,none⟩)))/\Hd O w0 w S (rest [i] l++[.tr bI [c] k kid,.tr (Rt.row (Rt.of (Rp.int .i64)) 3 []) [a] d last,.blk b ([c,.int .i64 n,.int .i64 e,a]++((Fl.arr 3 (Fl.int .i64)).f j)) 256]):=by
 obtain⟨v1,r,h⟩:=H.V hi;obtain rfl:v=v1:=by simpa using r
 cases h with
 |count p o s=>
  rename_i b c k a d;refine⟨b,c,k,a,d,rfl,H.split i hi _ (by simp [bks,Th.blocks]) λx q=>?_⟩;simp only [List.mem_cons,List.not_mem_nil,or_false]at q;rcases q with rfl|rfl|rfl
  ·exact⟨c,rfl,p⟩
  ·exact o
  ·exact s
theorem wJ {kid:Nd}{n c:Int}{last:List Int}{d:Arr 3 Int}{b:Nat}{h:Value}{o:List Nat}{i:Value}{j:List Nat}(H:Hd O w0 w S l)(e a t:Nat)(p:l[e]? =some (.tr bI [h] o kid))(k:l[a]? =some (.tr (Rt.row (Rt.of (Rp.int .i64)) 3 []) [i] j last))(u:l[t]? =some (.blk b ([h,.int .i64 n,.int .i64 c,i]++((Fl.arr 3 (Fl.int .i64)).f d)) 256))(y:[e,a,t].Nodup): ∃bs,Hd O w0 w S (rest [e,a,t] l++[.tr bI [(.iface 253 (.pointer (some ⟨b,0,none⟩)))] bs (.count kid n c last d)]):=by
 obtain⟨q,r,s⟩:=H.V p;obtain rfl:h=q:=by simpa using r
 refine⟨(o++(j++[b])),H.unite [e,a,t] y _ ?_ ⟨_,rfl,.count s (H.V k) (H.V u)⟩⟩;simp [Go.Lf.pick,bks,Th.blocks,p,k,u]
theorem aNu {f j:Nd}{last:Int}{begun:Bool}(H:Hd O w0 w S l)(i:Nat)(hi:l[i]? =some (.tr bI [v] bs (.since f j last begun))): ∃b a d c e,v=(.iface 257 (.pointer (some ⟨b,0,none⟩)))/\Hd O w0 w S (rest [i] l++[.tr bI [a] d f,.tr bI [c] e j,.blk b ([a,c,.int .i64 last,.bool begun]) 259]):=by
 obtain⟨v1,p,h⟩:=H.V hi;obtain rfl:v=v1:=by simpa using p
 cases h with
 |since k n q=>
  rename_i b a d c e;refine⟨b,a,d,c,e,rfl,H.split i hi _ (by simp [bks,Th.blocks]) λx o=>?_⟩;simp only [List.mem_cons,List.not_mem_nil,or_false]at o;rcases o with rfl|rfl|rfl
  ·exact⟨a,rfl,k⟩
  ·exact⟨c,rfl,n⟩
  ·exact q
theorem aIf {i n:Nd}{last:Int}{begun:Bool}{b:Nat}{d:Value}{f:List Nat}{e:Value}{j:List Nat}(H:Hd O w0 w S l)(a c u:Nat)(h:l[a]? =some (.tr bI [d] f i))(k:l[c]? =some (.tr bI [e] j n))(y:l[u]? =some (.blk b ([d,e,.int .i64 last,.bool begun]) 259))(z:[a,c,u].Nodup): ∃bs,Hd O w0 w S (rest [a,c,u] l++[.tr bI [(.iface 257 (.pointer (some ⟨b,0,none⟩)))] bs (.since i n last begun)]):=by
 obtain⟨o,p,q⟩:=H.V h;obtain rfl:d=o:=by simpa using p
 obtain⟨r,s,t⟩:=H.V k;obtain rfl:e=r:=by simpa using s
 refine⟨(f++(j++[b])),H.unite [a,c,u] z _ ?_ ⟨_,rfl,.since q t (H.V y)⟩⟩;simp [Go.Lf.pick,bks,Th.blocks,h,k,y]
theorem aNt {kid:Nd}{last:Int}{begun:Bool}(H:Hd O w0 w S l)(i:Nat)(hi:l[i]? =some (.tr bI [v] bs (.rises kid last begun))): ∃b a c,v=(.iface 260 (.pointer (some ⟨b,0,none⟩)))/\Hd O w0 w S (rest [i] l++[.tr bI [a] c kid,.blk b ([a,.int .i64 last,.bool begun]) 262]):=by
 obtain⟨v1,f,h⟩:=H.V hi;obtain rfl:v=v1:=by simpa using f
 cases h with
 |rises d j=>
  rename_i b a c;refine⟨b,a,c,rfl,H.split i hi _ (by simp [bks,Th.blocks]) λx e=>?_⟩;simp only [List.mem_cons,List.not_mem_nil,or_false]at e;rcases e with rfl|rfl
  ·exact⟨a,rfl,d⟩
  ·exact j
theorem aIi {kid:Nd}{last:Int}{begun:Bool}{b:Nat}{c:Value}{d:List Nat}(H:Hd O w0 w S l)(a j:Nat)(e:l[a]? =some (.tr bI [c] d kid))(k:l[j]? =some (.blk b ([c,.int .i64 last,.bool begun]) 262))(n:[a,j].Nodup): ∃bs,Hd O w0 w S (rest [a,j] l++[.tr bI [(.iface 260 (.pointer (some ⟨b,0,none⟩)))] bs (.rises kid last begun)]):=by
 obtain⟨f,h,i⟩:=H.V e;obtain rfl:c=f:=by simpa using h
 refine⟨(d++[b]),H.unite [a,j] n _ ?_ ⟨_,rfl,.rises i (H.V k)⟩⟩;simp [Go.Lf.pick,bks,Th.blocks,e,k]
theorem aHo {truth:Int}(H:Hd O w0 w S l)(i:Nat)(hi:l[i]? =some (.tr bI [v] bs (.constant truth))):v=(.iface 235 (.agg ([.int .i64 truth]).toArray)):=by
 obtain⟨v1,a,h⟩:=H.V hi;obtain rfl:v=v1:=by simpa using a
 cases h;rfl
theorem aCr {truth:Int}(H:Hd O w0 w S l):Hd O w0 w S (l++[.tr bI [(.iface 235 (.agg ([.int .i64 truth]).toArray))] [] (.constant truth)]):=
 H.add (Only.refl [] w) (λ_=>⟨_,rfl,.constant⟩) (by simp [Th.blocks]) (by simp [Th.blocks])
theorem aLi {track op n:Int}(H:Hd O w0 w S l)(i:Nat)(hi:l[i]? =some (.tr bI [v] bs (.number track op n))):v=(.iface 237 (.agg ([.int .i64 track,.int .i64 op,.int .i64 n]).toArray)):=by
 obtain⟨v1,a,h⟩:=H.V hi;obtain rfl:v=v1:=by simpa using a
 cases h;rfl
theorem aSf {track op n:Int}(H:Hd O w0 w S l):Hd O w0 w S (l++[.tr bI [(.iface 237 (.agg ([.int .i64 track,.int .i64 op,.int .i64 n]).toArray))] [] (.number track op n)]):=
 H.add (Only.refl [] w) (λ_=>⟨_,rfl,.number⟩) (by simp [Th.blocks]) (by simp [Th.blocks])
theorem aRr {a b denA denB op:Int}(H:Hd O w0 w S l)(i:Nat)(hi:l[i]? =some (.tr bI [v] bs (.pair a b denA denB op))):v=(.iface 239 (.agg ([.int .i64 a,.int .i64 b,.int .i64 denA,.int .i64 denB,.int .i64 op]).toArray)):=by
 obtain⟨v1,c,h⟩:=H.V hi;obtain rfl:v=v1:=by simpa using c
 cases h;rfl
theorem bAe {a b denA denB op:Int}(H:Hd O w0 w S l):Hd O w0 w S (l++[.tr bI [(.iface 239 (.agg ([.int .i64 a,.int .i64 b,.int .i64 denA,.int .i64 denB,.int .i64 op]).toArray))] [] (.pair a b denA denB op)]):=
 H.add (Only.refl [] w) (λ_=>⟨_,rfl,.pair⟩) (by simp [Th.blocks]) (by simp [Th.blocks])
theorem aNn {phase:Int}(H:Hd O w0 w S l)(i:Nat)(hi:l[i]? =some (.tr bI [v] bs (.phase phase))):v=(.iface 244 (.agg ([.int .i64 phase]).toArray)):=by
 obtain⟨v1,a,h⟩:=H.V hi;obtain rfl:v=v1:=by simpa using a
 cases h;rfl
theorem aWq {phase:Int}(H:Hd O w0 w S l):Hd O w0 w S (l++[.tr bI [(.iface 244 (.agg ([.int .i64 phase]).toArray))] [] (.phase phase)]):=
 H.add (Only.refl [] w) (λ_=>⟨_,rfl,.phase⟩) (by simp [Th.blocks]) (by simp [Th.blocks])
theorem aRy {rule:Int}(H:Hd O w0 w S l)(i:Nat)(hi:l[i]? =some (.tr bI [v] bs (.rule rule))):v=(.iface 246 (.agg ([.int .i64 rule]).toArray)):=by
 obtain⟨v1,a,h⟩:=H.V hi;obtain rfl:v=v1:=by simpa using a
 cases h;rfl
theorem aZg {rule:Int}(H:Hd O w0 w S l):Hd O w0 w S (l++[.tr bI [(.iface 246 (.agg ([.int .i64 rule]).toArray))] [] (.rule rule)]):=
 H.add (Only.refl [] w) (λ_=>⟨_,rfl,.rule⟩) (by simp [Th.blocks]) (by simp [Th.blocks])
theorem aIa {F:Nat->Prop}{x:Nd}(h:(Th.tr bI [v] bs x).holds F w): ∃T u,v= .iface T u:=by
 obtain⟨u,e,h⟩:=h;obtain rfl:v=u:=by simpa using e
 cases h<;>exact⟨_,_,rfl⟩
structure fG where
 from_:Int
 to:Int
 when:Nd
def wF:Rt fG:=⟨3,λF w cs bs x=> ∃v,cs=[.int .i64 x.from_,.int .i64 x.to,v]/\NdO F w v bs x.when,λ⟨v,e,_⟩=>by subst e;rfl,
 λ⟨v,e,h⟩=>by subst e;intro u a;simp only [List.mem_cons,List.not_mem_nil,or_false]at a;rcases a with rfl|rfl|rfl<;>first |rfl|exact h.one,λb c ⟨v,e,h⟩=>⟨v,e,h.mono b c⟩⟩
theorem aAl {cs:List Value}{x:fG}(H:Hd O w0 w S l)(i:Nat)(hi:l[i]? =some (.tr wF cs bs x)): ∃v a,cs=[.int .i64 x.from_,.int .i64 x.to,v]/\Hd O w0 w S (rest [i] l++[.tr bI [v] a x.when]):=by
 obtain⟨v,e,h⟩:=H.V hi;exact⟨v,bs,e,H.split i hi _ (by simp [bks,Th.blocks]) λ_ b=>by obtain rfl:=mS.1 b;exact⟨v,rfl,h⟩⟩
theorem qW {x:fG}(H:Hd O w0 w S l)(i:Nat)(hi:l[i]? =some (.tr bI [v] bs x.when)): ∃a,Hd O w0 w S (rest [i] l++[.tr wF [.int .i64 x.from_,.int .i64 x.to,v] a x]):=by
 obtain⟨u,e,h⟩:=H.V hi;obtain rfl:v=u:=by simpa using e
 exact⟨bs,H.unite [i] (by simp) _ (by simp [Go.Lf.pick,hi,bks,Th.blocks]) ⟨v,rfl,h⟩⟩
structure fA where
 phases:List Str
 tracks:Int
 moves:List fG
 rules:List Nd
 possible:List Bool
end hd
structure Cond where
 Kind:Int
 Name:Str
 Other:Str
 Op:Int
 N:Int
 Frames:Int
 Kids:List Cond
def wR:Nat->Rp Cond
 |0=>Rp.bot 7
 |n+1=>Rp.iso (Rp.pair (Rp.int .i64) (Rp.pair Rp.str (Rp.pair Rp.str (Rp.pair (Rp.int .i64) (Rp.pair (Rp.int .i64) (Rp.pair (Rp.int .i64) (Rp.sl (wR n)))))))) λx=>(x.Kind,x.Name,x.Other,x.Op,x.N,x.Frames,x.Kids)
theorem aOz: ∀n,(wR n).sz=7
 |0=>rfl
 |_+1=>rfl
theorem aIh {F:Nat->Prop}{w:World}{n:Nat}{cs:List Value}{x:Cond}(h:(wR (n+1)).rd F w cs x): ∃v0,cs=[.int .i64 x.Kind,.string (bs x.Name),.string (bs x.Other),.int .i64 x.Op,.int .i64 x.N,.int .i64 x.Frames,v0]/\SlF (wR n) F w v0 x.Kids:=by
 obtain⟨_,_,rfl,rfl,⟨_,_,rfl,rfl,⟨_,_,rfl,rfl,⟨_,_,rfl,rfl,⟨_,_,rfl,rfl,⟨_,_,rfl,rfl,⟨v0,rfl,a⟩⟩⟩⟩⟩⟩⟩:=h;exact⟨v0,rfl,a⟩
theorem aOh {F:Nat->Prop}{w:World}{n:Nat}{x:Cond}{v0:Value}(a:SlF (wR n) F w v0 x.Kids):(wR (n+1)).rd F w [.int .i64 x.Kind,.string (bs x.Name),.string (bs x.Other),.int .i64 x.Op,.int .i64 x.N,.int .i64 x.Frames,v0] x:=⟨[_],_,rfl,rfl,⟨[_],_,rfl,rfl,⟨[_],_,rfl,rfl,⟨[_],_,rfl,rfl,⟨[_],_,rfl,rfl,⟨[_],_,rfl,rfl,⟨_,rfl,a⟩⟩⟩⟩⟩⟩⟩
theorem aHs: ∀n,(wR n).le (wR (n+1))
 |0=>⟨rfl,λ_ _ _ _ h=>h.elim⟩
 |n+1=>⟨rfl,λF w cs x h=>by
  obtain⟨v0,rfl,a⟩:=aIh h;exact aOh (slf_le (aHs n) a)⟩
def dB:Rp Cond:=Rp.lim wR 7 aOz
theorem xU {F:Nat->Prop}{w:World}{cs:List Value}{x:Cond}(h:dB.rd F w cs x): ∃v0,cs=[.int .i64 x.Kind,.string (bs x.Name),.string (bs x.Other),.int .i64 x.Op,.int .i64 x.N,.int .i64 x.Frames,v0]/\SlF (dB) F w v0 x.Kids:=by
 obtain⟨n,h⟩:=h
 cases n with
 |zero=>exact h.elim
 |succ n=>
  obtain⟨v0,rfl,a⟩:=aIh h;exact⟨v0,rfl,slf_le (le_lim (h:=aOz) n) a⟩
theorem aGe {F:Nat->Prop}{w:World}{x:Cond}{v0:Value}(a:SlF (dB) F w v0 x.Kids):dB.rd F w [.int .i64 x.Kind,.string (bs x.Name),.string (bs x.Other),.int .i64 x.Op,.int .i64 x.N,.int .i64 x.Frames,v0] x:=by
 obtain⟨n,a⟩:=bBp aHs a;exact⟨n+1,aOh a⟩
structure dH where
 From:Str
 To:Str
 When:Cond
def eQ:Rp dH:=Rp.iso (Rp.pair Rp.str (Rp.pair Rp.str dB)) λx=>(x.From,x.To,x.When)
theorem jK {F:Nat->Prop}{w:World}{cs:List Value}{x:dH}(h:eQ.rd F w cs x): ∃v1,cs=[.string (bs x.From),.string (bs x.To),.int .i64 x.When.Kind,.string (bs x.When.Name),.string (bs x.When.Other),.int .i64 x.When.Op,.int .i64 x.When.N,.int .i64 x.When.Frames,v1]/\SlF dB F w v1 x.When.Kids:=by
 obtain⟨_,_,rfl,rfl,⟨_,_,rfl,rfl,c⟩⟩:=h;obtain⟨a,rfl,b⟩:=xU c;exact⟨a,rfl,b⟩
structure fU where
 Name:Str
 When:Cond
def dD:Rp fU:=Rp.iso (Rp.pair Rp.str dB) λx=>(x.Name,x.When)
theorem xY {F:Nat->Prop}{w:World}{cs:List Value}{x:fU}(h:dD.rd F w cs x): ∃v2,cs=[.string (bs x.Name),.int .i64 x.When.Kind,.string (bs x.When.Name),.string (bs x.When.Other),.int .i64 x.When.Op,.int .i64 x.When.N,.int .i64 x.When.Frames,v2]/\SlF dB F w v2 x.When.Kids:=by
 obtain⟨_,_,rfl,rfl,c⟩:=h;obtain⟨a,rfl,b⟩:=xU c;exact⟨a,rfl,b⟩
theorem aVc {F:Nat->Prop}{w:World}{x:fU}{v0:Value}(a:SlF dB F w v0 x.When.Kids):dD.rd F w [.string (bs x.Name),.int .i64 x.When.Kind,.string (bs x.When.Name),.string (bs x.When.Other),.int .i64 x.When.Op,.int .i64 x.When.N,.int .i64 x.When.Frames,v0] x:=⟨[_],_,rfl,rfl,(aGe a)⟩
structure Rules where
 Phases:List Str
 Moves:List dH
 Rules:List fU
def aXs:Rp Rules:=Rp.iso (Rp.pair (Rp.sl Rp.str) (Rp.pair (Rp.sl eQ) (Rp.sl dD))) λx=>(x.Phases,x.Moves,x.Rules)
theorem aWg {F:Nat->Prop}{w:World}{cs:List Value}{x:Rules}(h:aXs.rd F w cs x): ∃v3 v4 v5,cs=[v3,v4,v5]/\SlF Rp.str F w v3 x.Phases/\SlF eQ F w v4 x.Moves/\SlF dD F w v5 x.Rules:=by
 obtain⟨_,_,rfl,⟨v0,rfl,a⟩,⟨_,_,rfl,⟨v1,rfl,b⟩,⟨v2,rfl,c⟩⟩⟩:=h;exact⟨v0,v1,v2,rfl,a,b,c⟩
structure gU where
 frame:Int
 n:Int
 deriving DecidableEq
def fP:Rp gU:=Rp.iso (Rp.pair (Rp.int .i64) (Rp.int .i64)) λx=>(x.frame,x.n)
theorem dV {F:Nat->Prop}{w:World}{cs:List Value}{x:gU}(h:fP.rd F w cs x):cs=[.int .i64 x.frame,.int .i64 x.n]:=by
 obtain⟨_,_,rfl,rfl,rfl⟩:=h;exact rfl
theorem jU {F:Nat->Prop}{w:World}{x:gU}:fP.rd F w [.int .i64 x.frame,.int .i64 x.n] x:=⟨[_],_,rfl,rfl,rfl⟩
structure gI where
 c:Cond
 kids:List Int
 rule:Int
 now:Int
 kid:Int
 ring:List Int
 at_:Int
 yes:Int
 no:Int
 known:Int
 low:List gU
 high:List gU
structure gG where
 r:Rules
 names:List Str
 dens:List Int
 told:List gY
 frames:Int
 phase:List Bool
 nodes:List gI
 first:Int
 moves:List Int
 rules:List Int
def bV:Rt gI:=Rt.iso (Rt.pair (Rt.of dB) (Rt.pair (Rt.row (Rt.of (Rp.int .i64)) 3 []) (Rt.pair (Rt.of (Rp.int .i64)) (Rt.pair (Rt.of (Rp.int .i64)) (Rt.pair (Rt.of (Rp.int .i64)) (Rt.pair (Rt.row (Rt.of (Rp.int .i8)) 215 []) (Rt.pair (Rt.of (Rp.int .i64)) (Rt.pair (Rt.of (Rp.int .i64)) (Rt.pair (Rt.of (Rp.int .i64)) (Rt.pair (Rt.of (Rp.int .i64)) (Rt.pair (Rt.row (Rt.of fP) 268 []) (Rt.row (Rt.of fP) 268 [])))))))))))) λx=>(x.c,x.kids,x.rule,x.now,x.kid,x.ring,x.at_,x.yes,x.no,x.known,x.low,x.high)
theorem zW {cs:List Value}{o:List Nat}{x:gI}{w w0:World}{O S:List Nat}{l:List Th}(H:Hd O w0 w S l)(i:Nat)(hi:l[i]? =some (.tr bV cs o x)): ∃v0 v1 a v2 b v3 d v4 e,cs=[.int .i64 x.c.Kind,.string (bs x.c.Name),.string (bs x.c.Other),.int .i64 x.c.Op,.int .i64 x.c.N,.int .i64 x.c.Frames,v0,v1,.int .i64 x.rule,.int .i64 x.now,.int .i64 x.kid,v2,.int .i64 x.at_,.int .i64 x.yes,.int .i64 x.no,.int .i64 x.known,v3,v4]/\Hd O w0 w S (rest [i] l++[.tr (Rt.row (Rt.of (Rp.int .i64)) 3 []) [v1] a x.kids,.tr (Rt.row (Rt.of (Rp.int .i8)) 215 []) [v2] b x.ring,.tr (Rt.row (Rt.of fP) 268 []) [v3] d x.low,.tr (Rt.row (Rt.of fP) 268 []) [v4] e x.high,.fz (.sl dB v0 x.c.Kids)]):=by
 obtain⟨_,_,_,_,rfl,rfl,⟨rfl,p⟩,⟨_,_,a,_,rfl,rfl,⟨v1,f,q,rfl,r,s,t⟩,⟨_,_,_,_,rfl,rfl,⟨rfl,rfl⟩,⟨_,_,_,_,rfl,rfl,⟨rfl,rfl⟩,⟨_,_,_,_,rfl,rfl,⟨rfl,rfl⟩,⟨_,_,b,_,rfl,rfl,⟨v2,h,c2,rfl,u,z,A⟩,⟨_,_,_,_,rfl,rfl,⟨rfl,rfl⟩,⟨_,_,_,_,rfl,rfl,⟨rfl,rfl⟩,⟨_,_,_,_,rfl,rfl,⟨rfl,rfl⟩,⟨_,_,_,_,rfl,rfl,⟨rfl,rfl⟩,⟨_,_,d,e,rfl,rfl,⟨v3,j,c3,rfl,B,C,D⟩,⟨v4,k,c4,rfl,E,G,I⟩⟩⟩⟩⟩⟩⟩⟩⟩⟩⟩⟩:=H.V hi;obtain⟨v0,rfl,J⟩:=xU p;refine⟨v0,v1,a,v2,b,v3,d,v4,e,rfl,H.split i hi _ (by simp [bks,Th.blocks]) λ_ n=>?_⟩;simp only [List.mem_cons,List.not_mem_nil,or_false]at n;rcases n with rfl|rfl|rfl|rfl|rfl
 ·exact⟨v1,f,q,rfl,r,s,t⟩
 ·exact⟨v2,h,c2,rfl,u,z,A⟩
 ·exact⟨v3,j,c3,rfl,B,C,D⟩
 ·exact⟨v4,k,c4,rfl,E,G,I⟩
 ·exact J
theorem zL {x:gI}{w w0:World}{O S:List Nat}{l:List Th}{v1:Value}{b:List Nat}{v2:Value}{d:List Nat}{v3:Value}{e:List Nat}{v4:Value}{f:List Nat}{v0:Value}(H:Hd O w0 w S l)(a i2 i3 i4:Nat)(g1:l[a]? =some (.tr (Rt.row (Rt.of (Rp.int .i64)) 3 []) [v1] b x.kids))(g2:l[i2]? =some (.tr (Rt.row (Rt.of (Rp.int .i8)) 215 []) [v2] d x.ring))(g3:l[i3]? =some (.tr (Rt.row (Rt.of fP) 268 []) [v3] e x.low))(g4:l[i4]? =some (.tr (Rt.row (Rt.of fP) 268 []) [v4] f x.high))(h:(Th.fz (.sl dB v0 x.c.Kids)).holds (frees O l) w)(i:[a,i2,i3,i4].Nodup): ∃j,Hd O w0 w S (rest [a,i2,i3,i4] l++[.tr bV [.int .i64 x.c.Kind,.string (bs x.c.Name),.string (bs x.c.Other),.int .i64 x.c.Op,.int .i64 x.c.N,.int .i64 x.c.Frames,v0,v1,.int .i64 x.rule,.int .i64 x.now,.int .i64 x.kid,v2,.int .i64 x.at_,.int .i64 x.yes,.int .i64 x.no,.int .i64 x.known,v3,v4] j x]):=by
 have k:=H.V g1;have n:=H.V g2;have o:=H.V g3;have p:=H.V g4;exact⟨[]++(b++([]++([]++([]++(d++([]++([]++([]++([]++(e++(f))))))))))),H.unite [a,i2,i3,i4] i _ (by simp [Go.Lf.pick,bks,Th.blocks,g1,g2,g3,g4]) ⟨[_,_,_,_,_,_,_],_,[],_,rfl,rfl,⟨rfl,aGe h⟩,⟨[_],_,b,_,rfl,rfl,k,⟨[_],_,[],_,rfl,rfl,⟨rfl,rfl⟩,⟨[_],_,[],_,rfl,rfl,⟨rfl,rfl⟩,⟨[_],_,[],_,rfl,rfl,⟨rfl,rfl⟩,⟨[_],_,d,_,rfl,rfl,n,⟨[_],_,[],_,rfl,rfl,⟨rfl,rfl⟩,⟨[_],_,[],_,rfl,rfl,⟨rfl,rfl⟩,⟨[_],_,[],_,rfl,rfl,⟨rfl,rfl⟩,⟨[_],_,[],_,rfl,rfl,⟨rfl,rfl⟩,⟨[_],_,e,_,rfl,rfl,o,p⟩⟩⟩⟩⟩⟩⟩⟩⟩⟩⟩⟩

end Go.Lf
