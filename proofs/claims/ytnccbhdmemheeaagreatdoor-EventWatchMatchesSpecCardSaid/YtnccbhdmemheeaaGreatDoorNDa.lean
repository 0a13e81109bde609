/- Laws that the claim stands on; no condition beyond those stated. -/
import Derived.Test.YtnccbhdmemheeaaGreatDoorXVp
import Derived.Test.YtnccbhdmemheeaaGreatDoorLfT
namespace Go.Lf
open Go.RowKit Go.OB
structure fD where
 N:Int
 Known:Bool
 deriving DecidableEq
def bH:Rp fD:=Rp.iso (Rp.pair (Rp.int .i64) Rp.bool) λx=>(x.N,x.Known)
theorem kK {F:Nat->Prop}{w:World}{cs:List Value}{x:fD}(h:bH.rd F w cs x):cs=[.int .i64 x.N,.bool x.Known]:=by
 obtain⟨_,_,rfl,rfl,rfl⟩:=h;exact rfl
theorem rToldT_mk {F:Nat->Prop}{w:World}{x:fD}:bH.rd F w [.int .i64 x.N,.bool x.Known] x:=⟨[_],_,rfl,rfl,rfl⟩
structure kL where
 truth:Int
 deriving DecidableEq
structure aK where
 track:Int
 op:Int
 n:Int
 deriving DecidableEq
structure jG where
 a:Int
 b:Int
 denA:Int
 denB:Int
 op:Int
 deriving DecidableEq
structure kP where
 phase:Int
 deriving DecidableEq
structure qK where
 rule:Int
 deriving DecidableEq
inductive Nd where
 |constant (truth:Int)
 |number (track:Int) (op:Int) (n:Int)
 |pair (a:Int) (b:Int) (denA:Int) (denB:Int) (op:Int)
 |steady (track:Int) (n:Int) (frames:Int) (last:List fD)
 |phase (phase:Int)
 |rule (rule:Int)
 |not (kid:Nd)
 |group (kids:List Nd) (any:Bool)
 |count (kid:Nd) (n:Int) (frames:Int) (last:List Int) (totals:Arr 3 Int)
 |since (while_:Nd) (from_:Nd) (last:Int) (begun:Bool)
 |rises (kid:Nd) (last:Int) (begun:Bool)
mutual
inductive NdO (F:Nat->Prop) (w:World):Value->List Nat->Nd->Prop
 |constant {truth:Int}:NdO F w (.iface 175 (.agg ([.int .i64 truth]).toArray)) [] (.constant truth)
 |number {track:Int}{op:Int}{n:Int}:NdO F w (.iface 177 (.agg ([.int .i64 track,.int .i64 op,.int .i64 n]).toArray)) [] (.number track op n)
 |pair {a:Int}{b:Int}{denA:Int}{denB:Int}{op:Int}:NdO F w (.iface 179 (.agg ([.int .i64 a,.int .i64 b,.int .i64 denA,.int .i64 denB,.int .i64 op]).toArray)) [] (.pair a b denA denB op)
 |steady {track:Int}{n:Int}{frames:Int}{last:List fD}{b:Nat}{vlast:Value}{blast:List Nat}:(Rt.row (Rt.of bH) 72 []).rd F w [vlast] blast last->Blk w b ([.int .i64 track,.int .i64 n,.int .i64 frames,vlast]) 146->NdO F w (.iface 144 (.pointer (some ⟨b,0,none⟩))) (blast++[b]) (.steady track n frames last)
 |phase {phase:Int}:NdO F w (.iface 181 (.agg ([.int .i64 phase]).toArray)) [] (.phase phase)
 |rule {rule:Int}:NdO F w (.iface 183 (.agg ([.int .i64 rule]).toArray)) [] (.rule rule)
 |not {kid:Nd}{b:Nat}{vkid:Value}{bkid:List Nat}:NdO F w vkid bkid kid->Blk w b ([vkid]) 153->NdO F w (.iface 151 (.pointer (some ⟨b,0,none⟩))) (bkid++[b]) (.not kid)
 |group {kids:List Nd}{any:Bool}{b:Nat}{vkids:Value}{bkids:List Nat}{xkids:List Value}{ckids:List Nat}:NdsO F w xkids ckids kids->OwO w 67 1 vkids kids.length xkids->bkids=ob vkids++ckids->Blk w b ([vkids,.bool any]) 156->NdO F w (.iface 154 (.pointer (some ⟨b,0,none⟩))) (bkids++[b]) (.group kids any)
 |count {kid:Nd}{n:Int}{frames:Int}{last:List Int}{totals:Arr 3 Int}{b:Nat}{vkid:Value}{bkid:List Nat}{vlast:Value}{blast:List Nat}:NdO F w vkid bkid kid->(Rt.row (Rt.of (Rp.int .i64)) 3 []).rd F w [vlast] blast last->Blk w b ([vkid,.int .i64 n,.int .i64 frames,vlast]++((Fl.arr 3 (Fl.int .i64)).f totals)) 150->NdO F w (.iface 147 (.pointer (some ⟨b,0,none⟩))) (bkid++(blast++[b])) (.count kid n frames last totals)
 |since {while_:Nd}{from_:Nd}{last:Int}{begun:Bool}{b:Nat}{vwhile_:Value}{bwhile_:List Nat}{vfrom_:Value}{bfrom_:List Nat}:NdO F w vwhile_ bwhile_ while_->NdO F w vfrom_ bfrom_ from_->Blk w b ([vwhile_,vfrom_,.int .i64 last,.bool begun]) 160->NdO F w (.iface 157 (.pointer (some ⟨b,0,none⟩))) (bwhile_++(bfrom_++[b])) (.since while_ from_ last begun)
 |rises {kid:Nd}{last:Int}{begun:Bool}{b:Nat}{vkid:Value}{bkid:List Nat}:NdO F w vkid bkid kid->Blk w b ([vkid,.int .i64 last,.bool begun]) 163->NdO F w (.iface 161 (.pointer (some ⟨b,0,none⟩))) (bkid++[b]) (.rises kid last begun)
inductive NdsO (F:Nat->Prop) (w:World):List Value->List Nat->List Nd->Prop
 |nil:NdsO F w [] [] []
 |cons {v:Value}{b:List Nat}{x:Nd}{vs:List Value}{bs:List Nat}{l:List Nd}:NdO F w v b x->NdsO F w vs bs l->NdsO F w (v::vs) (b++bs) (x::l)
end
section
variable {F F':Nat->Prop}{w w':World}{v:Value}{bs:List Nat}{x:Nd}
theorem NdO.mono (t:Same F F' w w')(h:NdO F w v bs x):(∀k∈bs,w'.heap[k]? =w.heap[k]?)->NdO F' w' v bs x:=by
 refine NdO.rec (motive_1:=λv bs x _=>(∀k∈bs,w'.heap[k]? =w.heap[k]?)->NdO F' w' v bs x) (motive_2:=λvs bs l _=>(∀k∈bs,w'.heap[k]? =w.heap[k]?)->NdsO F' w' vs bs l) ?_ ?_ ?_ ?_ ?_ ?_ ?_ ?_ ?_ ?_ ?_ ?_ ?_ h;intros;exact .constant;intros;exact .number;intros;exact .pair;intros;rename_i d f a;exact .steady (Rt.mono _ t (λx b=>a x (List.mem_append_left _ b)) d) (nG f (a _ (List.mem_append_right _ (mS.2 rfl))));intros;exact .phase;intros;exact .rule;intros;rename_i n f c a;exact .not (c λx b=>a x (List.mem_append_left _ b)) (nG f (a _ (List.mem_append_right _ (mS.2 rfl))));intros;rename_i _ o e f p a;exact .group (p λx b=>a x (List.mem_append_left _ (by rw [e];exact List.mem_append_right _ b))) (OwO.same o λx b=>a x (List.mem_append_left _ (by rw [e];exact List.mem_append_left _ b))) e (nG f (a _ (List.mem_append_right _ (mS.2 rfl))));intros;rename_i n d f c a;exact .count (c λx b=>a x (List.mem_append_left _ b)) (Rt.mono _ t (λx b=>a x (List.mem_append_right _ (List.mem_append_left _ b))) d) (nG f (a _ (List.mem_append_right _ (List.mem_append_right _ (mS.2 rfl)))));intros;rename_i _ _ f i j a;exact .since (i λx b=>a x (List.mem_append_left _ b)) (j λx b=>a x (List.mem_append_right _ (List.mem_append_left _ b))) (nG f (a _ (List.mem_append_right _ (List.mem_append_right _ (mS.2 rfl)))))
 intros;rename_i n f c a;exact .rises (c λx b=>a x (List.mem_append_left _ b)) (nG f (a _ (List.mem_append_right _ (mS.2 rfl))));intros;exact .nil;intros;rename_i _ _ u i2 a;exact .cons (u λx b=>a x (List.mem_append_left _ b)) (i2 λx b=>a x (List.mem_append_right _ b))
theorem NdO.one (h:NdO F w v bs x):v.oneCell'=true:=by cases h<;>rfl
end
def eU:Rt Nd:=⟨1,λF w cs bs x=> ∃v,cs=[v]/\NdO F w v bs x,λ⟨v,e,_⟩=>by subst e;rfl,λ⟨v,e,h⟩=>by subst e;simpa using h.one,λa b ⟨v,e,h⟩=>⟨v,e,h.mono a b⟩⟩
theorem aGi {F:Nat->Prop}{w:World}: ∀{l:List Nd}{i:Nat}{vs:List Value}{bs:List Nat},mX eU F w [] i vs bs l↔NdsO F w vs bs l
 | [],_,vs,bs=>⟨λh=>by rw [h.1,h.2];exact .nil,λh=>by cases h;exact⟨rfl,rfl⟩⟩
 |x::l,i,vs,bs=>by
  constructor
  ·rintro⟨c,d,e,f,rfl,rfl,a,b⟩;obtain⟨v,rfl,a⟩:=a;exact .cons a (aGi.1 b)
  ·intro h
   cases h with
   |cons a b=>exact⟨_,_,_,_,rfl,rfl,⟨_,rfl,a⟩,aGi.2 b⟩
structure dH where
 track:Int
 n:Int
 frames:Int
 last:List fD
structure kT where
 kid:Nd
structure dK where
 kids:List Nd
 any:Bool
structure dE where
 kid:Nd
 n:Int
 frames:Int
 last:List Int
 totals:Arr 3 Int
structure bI where
 while_:Nd
 from_:Nd
 last:Int
 begun:Bool
structure bG where
 kid:Nd
 last:Int
 begun:Bool
section hd
variable {w w0:World}{v:Value}{bs:List Nat}{O S:List Nat}{l:List Th}
theorem vX {track n d:Int}{last:List fD}(H:Hd O w0 w S l)(i:Nat)(hi:l[i]? =some (.tr eU [v] bs (.steady track n d last))): ∃b a c,v=(.iface 144 (.pointer (some ⟨b,0,none⟩)))/\Hd O w0 w S (rest [i] l++[.tr (Rt.row (Rt.of bH) 72 []) [a] c last,.blk b ([.int .i64 track,.int .i64 n,.int .i64 d,a]) 146]):=by
 obtain⟨v1,j,h⟩:=H.V hi;obtain rfl:v=v1:=by simpa using j
 cases h with
 |steady e k=>
  rename_i b a c;refine⟨b,a,c,rfl,H.split i hi _ (by simp [bks,Th.blocks]) λx f=>?_⟩;simp only [List.mem_cons,List.not_mem_nil,or_false]at f;rcases f with rfl|rfl
  ·exact e
  ·exact k
theorem qY {track n c:Int}{last:List fD}{b:Nat}{d:Value}{e:List Nat}(H:Hd O w0 w S l)(a h:Nat)(f:l[a]? =some (.tr (Rt.row (Rt.of bH) 72 []) [d] e last))(i:l[h]? =some (.blk b ([.int .i64 track,.int .i64 n,.int .i64 c,d]) 146))(j:[a,h].Nodup): ∃bs,Hd O w0 w S (rest [a,h] l++[.tr eU [(.iface 144 (.pointer (some ⟨b,0,none⟩)))] bs (.steady track n c last)]):=by
 refine⟨(e++[b]),H.unite [a,h] j _ ?_ ⟨_,rfl,.steady (H.V f) (H.V i)⟩⟩;simp [Go.Lf.pick,bks,Th.blocks,f,i]
theorem aCq {kid:Nd}(H:Hd O w0 w S l)(i:Nat)(hi:l[i]? =some (.tr eU [v] bs (.not kid))): ∃b a c,v=(.iface 151 (.pointer (some ⟨b,0,none⟩)))/\Hd O w0 w S (rest [i] l++[.tr eU [a] c kid,.blk b ([a]) 153]):=by
 obtain⟨v1,f,h⟩:=H.V hi;obtain rfl:v=v1:=by simpa using f
 cases h with
 |not d j=>
  rename_i b a c;refine⟨b,a,c,rfl,H.split i hi _ (by simp [bks,Th.blocks]) λx e=>?_⟩;simp only [List.mem_cons,List.not_mem_nil,or_false]at e;rcases e with rfl|rfl
  ·exact⟨a,rfl,d⟩
  ·exact j
theorem aAe {kid:Nd}{b:Nat}{c:Value}{d:List Nat}(H:Hd O w0 w S l)(a j:Nat)(e:l[a]? =some (.tr eU [c] d kid))(k:l[j]? =some (.blk b ([c]) 153))(n:[a,j].Nodup): ∃bs,Hd O w0 w S (rest [a,j] l++[.tr eU [(.iface 151 (.pointer (some ⟨b,0,none⟩)))] bs (.not kid)]):=by
 obtain⟨f,h,i⟩:=H.V e;obtain rfl:c=f:=by simpa using h
 refine⟨(d++[b]),H.unite [a,j] n _ ?_ ⟨_,rfl,.not i (H.V k)⟩⟩;simp [Go.Lf.pick,bks,Th.blocks,e,k]
theorem wS {kids:List Nd}{j:Bool}(H:Hd O w0 w S l)(i:Nat)(hi:l[i]? =some (.tr eU [v] bs (.group kids j))): ∃b a c,v=(.iface 154 (.pointer (some ⟨b,0,none⟩)))/\Hd O w0 w S (rest [i] l++[.tr (Rt.row eU 67 []) [a] c kids,.blk b ([a,.bool j]) 156]):=by
 obtain⟨v1,p,h⟩:=H.V hi;obtain rfl:v=v1:=by simpa using p
 cases h with
 |group d e f q=>
  rename_i b a c _ _;refine⟨b,a,c,rfl,H.split i hi _ (by simp [bks,Th.blocks]) λx o=>?_⟩;simp only [List.mem_cons,List.not_mem_nil,or_false]at o;rcases o with rfl|rfl
  ·exact⟨a,_,_,rfl,f,aGi.2 d,e⟩
  ·exact q
theorem tY {kids:List Nd}{n:Bool}{b:Nat}{c:Value}{d:List Nat}(H:Hd O w0 w S l)(a o:Nat)(e:l[a]? =some (.tr (Rt.row eU 67 []) [c] d kids))(p:l[o]? =some (.blk b ([c,.bool n]) 156))(q:[a,o].Nodup): ∃bs,Hd O w0 w S (rest [a,o] l++[.tr eU [(.iface 154 (.pointer (some ⟨b,0,none⟩)))] bs (.group kids n)]):=by
 obtain⟨f,_,_,h,i,j,k⟩:=H.V e;obtain rfl:c=f:=by simpa using h
 refine⟨(d++[b]),H.unite [a,o] q _ ?_ ⟨_,rfl,.group (aGi.1 j) k i (H.V p)⟩⟩;simp [Go.Lf.pick,bks,Th.blocks,e,p]
theorem wZ {kid:Nd}{n e:Int}{last:List Int}{j:Arr 3 Int}(H:Hd O w0 w S l)(i:Nat)(hi:l[i]? =some (.tr eU [v] bs (.count kid n e last j))): ∃b c k a d,v=(.iface 147 (.pointer (some ⟨b,0,none⟩)))/\Hd O w0 w S (rest [i] l++[.tr eU [c] k kid,.tr (Rt.row (Rt.of (Rp.int .i64)) 3 []) [a] d last,.blk b ([c,.int .i64 n,.int .i64 e,a]++((Fl.arr 3 (Fl.int .i64)).f j)) 150]):=by
 obtain⟨v1,r,h⟩:=H.V hi;obtain rfl:v=v1:=by simpa using r
 cases h with
 |count p o s=>
  rename_i b c k a d;refine⟨b,c,k,a,d,rfl,H.split i hi _ (by simp [bks,Th.blocks]) λx q=>?_⟩;simp only [List.mem_cons,List.not_mem_nil,or_false]at q;rcases q with rfl|rfl|rfl
  ·exact⟨c,rfl,p⟩
  ·exact o
  ·exact s
theorem nS {kid:Nd}{n c:Int}{last:List Int}{d:Arr 3 Int}{b:Nat}{h:Value}{o:List Nat}{i:Value}{j:List Nat}(H:Hd O w0 w S l)(e a t:Nat)(p:l[e]? =some (.tr eU [h] o kid))(k:l[a]? =some (.tr (Rt.row (Rt.of (Rp.int .i64)) 3 []) [i] j last))(u:l[t]? =some (.blk b ([h,.int .i64 n,.int .i64 c,i]++((Fl.arr 3 (Fl.int .i64)).f d)) 150))(y:[e,a,t].Nodup): ∃bs,Hd O w0 w S (rest [e,a,t] l++[.tr eU [(.iface 147 (.pointer (some ⟨b,0,none⟩)))] bs (.count kid n c last d)]):=by
 obtain⟨q,r,s⟩:=H.V p;obtain rfl:h=q:=by simpa using r
 refine⟨(o++(j++[b])),H.unite [e,a,t] y _ ?_ ⟨_,rfl,.count s (H.V k) (H.V u)⟩⟩;simp [Go.Lf.pick,bks,Th.blocks,p,k,u]
theorem wP {f j:Nd}{last:Int}{begun:Bool}(H:Hd O w0 w S l)(i:Nat)(hi:l[i]? =some (.tr eU [v] bs (.since f j last begun))): ∃b a d c e,v=(.iface 157 (.pointer (some ⟨b,0,none⟩)))/\Hd O w0 w S (rest [i] l++[.tr eU [a] d f,.tr eU [c] e j,.blk b ([a,c,.int .i64 last,.bool begun]) 160]):=by
 obtain⟨v1,p,h⟩:=H.V hi;obtain rfl:v=v1:=by simpa using p
 cases h with
 |since k n q=>
  rename_i b a d c e;refine⟨b,a,d,c,e,rfl,H.split i hi _ (by simp [bks,Th.blocks]) λx o=>?_⟩;simp only [List.mem_cons,List.not_mem_nil,or_false]at o;rcases o with rfl|rfl|rfl
  ·exact⟨a,rfl,k⟩
  ·exact⟨c,rfl,n⟩
  ·exact q
theorem tX {i n:Nd}{last:Int}{begun:Bool}{b:Nat}{d:Value}{f:List Nat}{e:Value}{j:List Nat}(H:Hd O w0 w S l)(a c u:Nat)(h:l[a]? =some (.tr eU [d] f i))(k:l[c]? =some (.tr eU [e] j n))(y:l[u]? =some (.blk b ([d,e,.int .i64 last,.bool begun]) 160))(z:[a,c,u].Nodup): ∃bs,Hd O w0 w S (rest [a,c,u] l++[.tr eU [(.iface 157 (.pointer (some ⟨b,0,none⟩)))] bs (.since i n last begun)]):=by
 obtain⟨o,p,q⟩:=H.V h;obtain rfl:d=o:=by simpa using p
 obtain⟨r,s,t⟩:=H.V k;obtain rfl:e=r:=by simpa using s
 refine⟨(f++(j++[b])),H.unite [a,c,u] z _ ?_ ⟨_,rfl,.since q t (H.V y)⟩⟩;simp [Go.Lf.pick,bks,Th.blocks,h,k,y]
theorem wR {kid:Nd}{last:Int}{begun:Bool}(H:Hd O w0 w S l)(i:Nat)(hi:l[i]? =some (.tr eU [v] bs (.rises kid last begun))): ∃b a c,v=(.iface 161 (.pointer (some ⟨b,0,none⟩)))/\Hd O w0 w S (rest [i] l++[.tr eU [a] c kid,.blk b ([a,.int .i64 last,.bool begun]) 163]):=by
 obtain⟨v1,f,h⟩:=H.V hi;obtain rfl:v=v1:=by simpa using f
 cases h with
 |rises d j=>
  rename_i b a c;refine⟨b,a,c,rfl,H.split i hi _ (by simp [bks,Th.blocks]) λx e=>?_⟩;simp only [List.mem_cons,List.not_mem_nil,or_false]at e;rcases e with rfl|rfl
  ·exact⟨a,rfl,d⟩
  ·exact j
theorem tK {kid:Nd}{last:Int}{begun:Bool}{b:Nat}{c:Value}{d:List Nat}(H:Hd O w0 w S l)(a j:Nat)(e:l[a]? =some (.tr eU [c] d kid))(k:l[j]? =some (.blk b ([c,.int .i64 last,.bool begun]) 163))(n:[a,j].Nodup): ∃bs,Hd O w0 w S (rest [a,j] l++[.tr eU [(.iface 161 (.pointer (some ⟨b,0,none⟩)))] bs (.rises kid last begun)]):=by
 obtain⟨f,h,i⟩:=H.V e;obtain rfl:c=f:=by simpa using h
 refine⟨(d++[b]),H.unite [a,j] n _ ?_ ⟨_,rfl,.rises i (H.V k)⟩⟩;simp [Go.Lf.pick,bks,Th.blocks,e,k]
theorem sG {truth:Int}(H:Hd O w0 w S l)(i:Nat)(hi:l[i]? =some (.tr eU [v] bs (.constant truth))):v=(.iface 175 (.agg ([.int .i64 truth]).toArray)):=by
 obtain⟨v1,a,h⟩:=H.V hi;obtain rfl:v=v1:=by simpa using a
 cases h;rfl
theorem vH {truth:Int}(H:Hd O w0 w S l):Hd O w0 w S (l++[.tr eU [(.iface 175 (.agg ([.int .i64 truth]).toArray))] [] (.constant truth)]):=
 H.add (Only.refl [] w) (λ_=>⟨_,rfl,.constant⟩) (by simp [Th.blocks]) (by simp [Th.blocks])
theorem vT {track op n:Int}(H:Hd O w0 w S l)(i:Nat)(hi:l[i]? =some (.tr eU [v] bs (.number track op n))):v=(.iface 177 (.agg ([.int .i64 track,.int .i64 op,.int .i64 n]).toArray)):=by
 obtain⟨v1,a,h⟩:=H.V hi;obtain rfl:v=v1:=by simpa using a
 cases h;rfl
theorem aGf {track op n:Int}(H:Hd O w0 w S l):Hd O w0 w S (l++[.tr eU [(.iface 177 (.agg ([.int .i64 track,.int .i64 op,.int .i64 n]).toArray))] [] (.number track op n)]):=
 H.add (Only.refl [] w) (λ_=>⟨_,rfl,.number⟩) (by simp [Th.blocks]) (by simp [Th.blocks])
theorem aBf {a b denA denB op:Int}(H:Hd O w0 w S l)(i:Nat)(hi:l[i]? =some (.tr eU [v] bs (.pair a b denA denB op))):v=(.iface 179 (.agg ([.int .i64 a,.int .i64 b,.int .i64 denA,.int .i64 denB,.int .i64 op]).toArray)):=by
 obtain⟨v1,c,h⟩:=H.V hi;obtain rfl:v=v1:=by simpa using c
 cases h;rfl
theorem aLd {a b denA denB op:Int}(H:Hd O w0 w S l):Hd O w0 w S (l++[.tr eU [(.iface 179 (.agg ([.int .i64 a,.int .i64 b,.int .i64 denA,.int .i64 denB,.int .i64 op]).toArray))] [] (.pair a b denA denB op)]):=
 H.add (Only.refl [] w) (λ_=>⟨_,rfl,.pair⟩) (by simp [Th.blocks]) (by simp [Th.blocks])
theorem aAa {phase:Int}(H:Hd O w0 w S l)(i:Nat)(hi:l[i]? =some (.tr eU [v] bs (.phase phase))):v=(.iface 181 (.agg ([.int .i64 phase]).toArray)):=by
 obtain⟨v1,a,h⟩:=H.V hi;obtain rfl:v=v1:=by simpa using a
 cases h;rfl
theorem aHy {phase:Int}(H:Hd O w0 w S l):Hd O w0 w S (l++[.tr eU [(.iface 181 (.agg ([.int .i64 phase]).toArray))] [] (.phase phase)]):=
 H.add (Only.refl [] w) (λ_=>⟨_,rfl,.phase⟩) (by simp [Th.blocks]) (by simp [Th.blocks])
theorem aAy {rule:Int}(H:Hd O w0 w S l)(i:Nat)(hi:l[i]? =some (.tr eU [v] bs (.rule rule))):v=(.iface 183 (.agg ([.int .i64 rule]).toArray)):=by
 obtain⟨v1,a,h⟩:=H.V hi;obtain rfl:v=v1:=by simpa using a
 cases h;rfl
theorem aKt {rule:Int}(H:Hd O w0 w S l):Hd O w0 w S (l++[.tr eU [(.iface 183 (.agg ([.int .i64 rule]).toArray))] [] (.rule rule)]):=
 H.add (Only.refl [] w) (λ_=>⟨_,rfl,.rule⟩) (by simp [Th.blocks]) (by simp [Th.blocks])
theorem aDu {F:Nat->Prop}{x:Nd}(h:(Th.tr eU [v] bs x).holds F w): ∃T u,v= .iface T u:=by
 obtain⟨u,e,h⟩:=h;obtain rfl:v=u:=by simpa using e
 cases h<;>exact⟨_,_,rfl⟩
structure fJ where
 from_:Int
 to:Int
 when:Nd
def kV:Rt fJ:=⟨3,λF w cs bs x=> ∃v,cs=[.int .i64 x.from_,.int .i64 x.to,v]/\NdO F w v bs x.when,λ⟨v,e,_⟩=>by subst e;rfl,
 λ⟨v,e,h⟩=>by subst e;intro u a;simp only [List.mem_cons,List.not_mem_nil,or_false]at a;rcases a with rfl|rfl|rfl<;>first |rfl|exact h.one,λb c ⟨v,e,h⟩=>⟨v,e,h.mono b c⟩⟩
theorem nX {cs:List Value}{x:fJ}(H:Hd O w0 w S l)(i:Nat)(hi:l[i]? =some (.tr kV cs bs x)): ∃v a,cs=[.int .i64 x.from_,.int .i64 x.to,v]/\Hd O w0 w S (rest [i] l++[.tr eU [v] a x.when]):=by
 obtain⟨v,e,h⟩:=H.V hi;exact⟨v,bs,e,H.split i hi _ (by simp [bks,Th.blocks]) λ_ b=>by obtain rfl:=mS.1 b;exact⟨v,rfl,h⟩⟩
theorem kN {x:fJ}(H:Hd O w0 w S l)(i:Nat)(hi:l[i]? =some (.tr eU [v] bs x.when)): ∃a,Hd O w0 w S (rest [i] l++[.tr kV [.int .i64 x.from_,.int .i64 x.to,v] a x]):=by
 obtain⟨u,e,h⟩:=H.V hi;obtain rfl:v=u:=by simpa using e
 exact⟨bs,H.unite [i] (by simp) _ (by simp [Go.Lf.pick,hi,bks,Th.blocks]) ⟨v,rfl,h⟩⟩
structure gY where
 phases:List Str
 tracks:Int
 moves:List fJ
 rules:List Nd
 possible:List Bool
def jY:Rt gY:=
  ⟨5,λF w cs bs x=> ∃v1 v2 a v3 b v4,cs= [v1,.int .i64 x.tracks,v2,v3,v4]/\bs=a++b/\SlF Rp.str F w v1 x.phases/\(Rt.row kV 69 []).rd F w [v2] a x.moves/\(Rt.row eU 67 []).rd F w [v3] b x.rules/\SlF Rp.bool F w v4 x.possible,
   λ ⟨_,_,_,_,_,_,e,_⟩=>by subst e; rfl,
   λ ⟨v1,v2,a,v3,b,v4,e,_,d,f,h,i⟩=>by
     subst e; intro u o; simp only [List.mem_cons,List.not_mem_nil,or_false] at o
     rcases o with rfl | rfl | rfl | rfl | rfl
     · exact xM d
     · rfl
     · exact row_one f
     · exact row_one h
     · exact xM i,
   λc p ⟨v1,v2,a,v3,b,v4,e,j,d,f,h,i⟩=>⟨v1,v2,a,v3,b,v4,e,j,SlF.mono c d,Rt.mono _ c (λk n=>p k (by rw [j]; exact List.mem_append_left _ n)) f,Rt.mono _ c (λk n=>p k (by rw [j]; exact List.mem_append_right _ n)) h,SlF.mono c i⟩⟩
theorem wL {cs:List Value}{x:gY}(H:Hd O w0 w S l)(i:Nat)(hi:l[i]? =some (.tr jY cs bs x)): ∃v1 v2 a v3 b v4,cs=[v1,.int .i64 x.tracks,v2,v3,v4]/\
  Hd O w0 w S (rest [i] l++[.tr (Rt.row kV 69 []) [v2] a x.moves,.tr (Rt.row eU 67 []) [v3] b x.rules,.fz (.sl Rp.str v1 x.phases),.fz (.sl Rp.bool v4 x.possible)]):=by
 obtain⟨v1,v2,a,v3,b,v4,e,d,f,h,j,k⟩:=H.V hi;refine⟨v1,v2,a,v3,b,v4,e,H.split i hi _ (by subst d;simp [bks,Th.blocks]) λ_ c=>?_⟩;simp only [List.mem_cons,List.not_mem_nil,or_false]at c;rcases c with rfl|rfl|rfl|rfl
 ·exact h
 ·exact j
 ·exact f
 ·exact k
theorem uC {x:gY}{v1 v2 v3 v4:Value}{a c:List Nat}(H:Hd O w0 w S l)(i k:Nat)(hi:l[i]? =some (.tr (Rt.row kV 69 []) [v2] a x.moves))(e:l[k]? =some (.tr (Rt.row eU 67 []) [v3] c x.rules))
  (f:(Th.fz (.sl Rp.str v1 x.phases)).holds (frees O l) w)(h:(Th.fz (.sl Rp.bool v4 x.possible)).holds (frees O l) w)(d:i≠k): ∃b,Hd O w0 w S (rest [i,k] l++[.tr jY [v1,.int .i64 x.tracks,v2,v3,v4] b x]):=
 ⟨a++c,H.unite [i,k] (by simpa using d) _ (by simp [Go.Lf.pick,hi,e,bks,Th.blocks]) ⟨v1,v2,a,v3,c,v4,rfl,rfl,f,H.V hi,H.V e,h⟩⟩
end hd
structure Cond where
 Kind:Int
 Name:Str
 Other:Str
 Op:Int
 N:Int
 Frames:Int
 Kids:List Cond
def wV:Nat->Rp Cond
 |0=>Rp.bot 7
 |n+1=>Rp.iso (Rp.pair (Rp.int .i64) (Rp.pair Rp.str (Rp.pair Rp.str (Rp.pair (Rp.int .i64) (Rp.pair (Rp.int .i64) (Rp.pair (Rp.int .i64) (Rp.sl (wV n)))))))) λx=>(x.Kind,x.Name,x.Other,x.Op,x.N,x.Frames,x.Kids)
theorem aQf: ∀n,(wV n).sz=7
 |0=>rfl
 |_+1=>rfl
theorem aHx {F:Nat->Prop}{w:World}{n:Nat}{cs:List Value}{x:Cond}(h:(wV (n+1)).rd F w cs x): ∃v0,cs=[.int .i64 x.Kind,.string (bs x.Name),.string (bs x.Other),.int .i64 x.Op,.int .i64 x.N,.int .i64 x.Frames,v0]/\SlF (wV n) F w v0 x.Kids:=by
 obtain⟨_,_,rfl,rfl,⟨_,_,rfl,rfl,⟨_,_,rfl,rfl,⟨_,_,rfl,rfl,⟨_,_,rfl,rfl,⟨_,_,rfl,rfl,⟨v0,rfl,a⟩⟩⟩⟩⟩⟩⟩:=h;exact⟨v0,rfl,a⟩
theorem aPu {F:Nat->Prop}{w:World}{n:Nat}{x:Cond}{v0:Value}(a:SlF (wV n) F w v0 x.Kids):(wV (n+1)).rd F w [.int .i64 x.Kind,.string (bs x.Name),.string (bs x.Other),.int .i64 x.Op,.int .i64 x.N,.int .i64 x.Frames,v0] x:=⟨[_],_,rfl,rfl,⟨[_],_,rfl,rfl,⟨[_],_,rfl,rfl,⟨[_],_,rfl,rfl,⟨[_],_,rfl,rfl,⟨[_],_,rfl,rfl,⟨_,rfl,a⟩⟩⟩⟩⟩⟩⟩
theorem aHq: ∀n,(wV n).le (wV (n+1))
 |0=>⟨rfl,λ_ _ _ _ h=>h.elim⟩
 |n+1=>⟨rfl,λF w cs x h=>by
  obtain⟨v0,rfl,a⟩:=aHx h;exact aPu (slf_le (aHq n) a)⟩
def dB:Rp Cond:=Rp.lim wV 7 aQf
theorem xY {F:Nat->Prop}{w:World}{cs:List Value}{x:Cond}(h:dB.rd F w cs x): ∃v0,cs=[.int .i64 x.Kind,.string (bs x.Name),.string (bs x.Other),.int .i64 x.Op,.int .i64 x.N,.int .i64 x.Frames,v0]/\SlF (dB) F w v0 x.Kids:=by
 obtain⟨n,h⟩:=h
 cases n with
 |zero=>exact h.elim
 |succ n=>
  obtain⟨v0,rfl,a⟩:=aHx h;exact⟨v0,rfl,slf_le (le_lim (h:=aQf) n) a⟩
theorem aAb {F:Nat->Prop}{w:World}{x:Cond}{v0:Value}(a:SlF (dB) F w v0 x.Kids):dB.rd F w [.int .i64 x.Kind,.string (bs x.Name),.string (bs x.Other),.int .i64 x.Op,.int .i64 x.N,.int .i64 x.Frames,v0] x:=by
 obtain⟨n,a⟩:=bAb aHq a;exact⟨n+1,aPu a⟩
structure dI where
 From:Str
 To:Str
 When:Cond
def fV:Rp dI:=Rp.iso (Rp.pair Rp.str (Rp.pair Rp.str dB)) λx=>(x.From,x.To,x.When)
theorem jO {F:Nat->Prop}{w:World}{cs:List Value}{x:dI}(h:fV.rd F w cs x): ∃v1,cs=[.string (bs x.From),.string (bs x.To),.int .i64 x.When.Kind,.string (bs x.When.Name),.string (bs x.When.Other),.int .i64 x.When.Op,.int .i64 x.When.N,.int .i64 x.When.Frames,v1]/\SlF dB F w v1 x.When.Kids:=by
 obtain⟨_,_,rfl,rfl,⟨_,_,rfl,rfl,c⟩⟩:=h;obtain⟨a,rfl,b⟩:=xY c;exact⟨a,rfl,b⟩
structure dA where
 Name:Str
 When:Cond
def eY:Rp dA:=Rp.iso (Rp.pair Rp.str dB) λx=>(x.Name,x.When)
theorem bZ {F:Nat->Prop}{w:World}{cs:List Value}{x:dA}(h:eY.rd F w cs x): ∃v2,cs=[.string (bs x.Name),.int .i64 x.When.Kind,.string (bs x.When.Name),.string (bs x.When.Other),.int .i64 x.When.Op,.int .i64 x.When.N,.int .i64 x.When.Frames,v2]/\SlF dB F w v2 x.When.Kids:=by
 obtain⟨_,_,rfl,rfl,c⟩:=h;obtain⟨a,rfl,b⟩:=xY c;exact⟨a,rfl,b⟩
theorem rRule_mk {F:Nat->Prop}{w:World}{x:dA}{v0:Value}(a:SlF dB F w v0 x.When.Kids):eY.rd F w [.string (bs x.Name),.int .i64 x.When.Kind,.string (bs x.When.Name),.string (bs x.When.Other),.int .i64 x.When.Op,.int .i64 x.When.N,.int .i64 x.When.Frames,v0] x:=⟨[_],_,rfl,rfl,(aAb a)⟩
structure Rules where
 Phases:List Str
 Moves:List dI
 Rules:List dA
def aMe:Rp Rules:=Rp.iso (Rp.pair (Rp.sl Rp.str) (Rp.pair (Rp.sl fV) (Rp.sl eY))) λx=>(x.Phases,x.Moves,x.Rules)
theorem aIk {F:Nat->Prop}{w:World}{cs:List Value}{x:Rules}(h:aMe.rd F w cs x): ∃v3 v4 v5,cs=[v3,v4,v5]/\SlF Rp.str F w v3 x.Phases/\SlF fV F w v4 x.Moves/\SlF eY F w v5 x.Rules:=by
 obtain⟨_,_,rfl,⟨v0,rfl,a⟩,⟨_,_,rfl,⟨v1,rfl,b⟩,⟨v2,rfl,c⟩⟩⟩:=h;exact⟨v0,v1,v2,rfl,a,b,c⟩
theorem rRules_mk {F:Nat->Prop}{w:World}{x:Rules}{v0 v1 v2:Value}(a:SlF Rp.str F w v0 x.Phases)(b:SlF fV F w v1 x.Moves)(c:SlF eY F w v2 x.Rules):aMe.rd F w [v0,v1,v2] x:=⟨[_],_,rfl,⟨_,rfl,a⟩,⟨[_],_,rfl,⟨_,rfl,b⟩,⟨_,rfl,c⟩⟩⟩
structure gV where
 frame:Int
 n:Int
 deriving DecidableEq
def fM:Rp gV:=Rp.iso (Rp.pair (Rp.int .i64) (Rp.int .i64)) λx=>(x.frame,x.n)
theorem dX {F:Nat->Prop}{w:World}{cs:List Value}{x:gV}(h:fM.rd F w cs x):cs=[.int .i64 x.frame,.int .i64 x.n]:=by
 obtain⟨_,_,rfl,rfl,rfl⟩:=h;exact rfl
theorem mD {F:Nat->Prop}{w:World}{x:gV}:fM.rd F w [.int .i64 x.frame,.int .i64 x.n] x:=⟨[_],_,rfl,rfl,rfl⟩
structure gI where
 c:Cond
 kids:List Int
 rule:Int
 now:Int
 kid:Int
 ring:List Int
 at_:Int
 yes:Int
 no:Int
 known:Int
 low:List gV
 high:List gV
structure gG where
 r:Rules
 names:List Str
 dens:List Int
 told:List fD
 frames:Int
 phase:List Bool
 nodes:List gI
 first:Int
 moves:List Int
 rules:List Int
def dD:Rt gI:=Rt.iso (Rt.pair (Rt.of dB) (Rt.pair (Rt.row (Rt.of (Rp.int .i64)) 3 []) (Rt.pair (Rt.of (Rp.int .i64)) (Rt.pair (Rt.of (Rp.int .i64)) (Rt.pair (Rt.of (Rp.int .i64)) (Rt.pair (Rt.row (Rt.of (Rp.int .i8)) 224 []) (Rt.pair (Rt.of (Rp.int .i64)) (Rt.pair (Rt.of (Rp.int .i64)) (Rt.pair (Rt.of (Rp.int .i64)) (Rt.pair (Rt.of (Rp.int .i64)) (Rt.pair (Rt.row (Rt.of fM) 250 []) (Rt.row (Rt.of fM) 250 [])))))))))))) λx=>(x.c,x.kids,x.rule,x.now,x.kid,x.ring,x.at_,x.yes,x.no,x.known,x.low,x.high)
theorem zV {cs:List Value}{o:List Nat}{x:gI}{w w0:World}{O S:List Nat}{l:List Th}(H:Hd O w0 w S l)(i:Nat)(hi:l[i]? =some (.tr dD cs o x)): ∃v0 v1 a v2 b v3 d v4 e,cs=[.int .i64 x.c.Kind,.string (bs x.c.Name),.string (bs x.c.Other),.int .i64 x.c.Op,.int .i64 x.c.N,.int .i64 x.c.Frames,v0,v1,.int .i64 x.rule,.int .i64 x.now,.int .i64 x.kid,v2,.int .i64 x.at_,.int .i64 x.yes,.int .i64 x.no,.int .i64 x.known,v3,v4]/\Hd O w0 w S (rest [i] l++[.tr (Rt.row (Rt.of (Rp.int .i64)) 3 []) [v1] a x.kids,.tr (Rt.row (Rt.of (Rp.int .i8)) 224 []) [v2] b x.ring,.tr (Rt.row (Rt.of fM) 250 []) [v3] d x.low,.tr (Rt.row (Rt.of fM) 250 []) [v4] e x.high,.fz (.sl dB v0 x.c.Kids)]):=by
 obtain⟨_,_,_,_,rfl,rfl,⟨rfl,p⟩,⟨_,_,a,_,rfl,rfl,⟨v1,f,q,rfl,r,s,t⟩,⟨_,_,_,_,rfl,rfl,⟨rfl,rfl⟩,⟨_,_,_,_,rfl,rfl,⟨rfl,rfl⟩,⟨_,_,_,_,rfl,rfl,⟨rfl,rfl⟩,⟨_,_,b,_,rfl,rfl,⟨v2,h,c2,rfl,u,z,A⟩,⟨_,_,_,_,rfl,rfl,⟨rfl,rfl⟩,⟨_,_,_,_,rfl,rfl,⟨rfl,rfl⟩,⟨_,_,_,_,rfl,rfl,⟨rfl,rfl⟩,⟨_,_,_,_,rfl,rfl,⟨rfl,rfl⟩,⟨_,_,d,e,rfl,rfl,⟨v3,j,c3,rfl,B,C,D⟩,⟨v4,k,c4,rfl,E,G,I⟩⟩⟩⟩⟩⟩⟩⟩⟩⟩⟩⟩:=H.V hi;obtain⟨v0,rfl,J⟩:=xY p;refine⟨v0,v1,a,v2,b,v3,d,v4,e,rfl,H.split i hi _ (by simp [bks,Th.blocks]) λ_ n=>?_⟩;simp only [List.mem_cons,List.not_mem_nil,or_false]at n;rcases n with rfl|rfl|rfl|rfl|rfl
 ·exact⟨v1,f,q,rfl,r,s,t⟩
 ·exact⟨v2,h,c2,rfl,u,z,A⟩
 ·exact⟨v3,j,c3,rfl,B,C,D⟩
 ·exact⟨v4,k,c4,rfl,E,G,I⟩
 ·exact J
theorem zN {x:gI}{w w0:World}{O S:List Nat}{l:List Th}{v1:Value}{b:List Nat}{v2:Value}{d:List Nat}{v3:Value}{e:List Nat}{v4:Value}{f:List Nat}{v0:Value}(H:Hd O w0 w S l)(a i2 i3 i4:Nat)(g1:l[a]? =some (.tr (Rt.row (Rt.of (Rp.int .i64)) 3 []) [v1] b x.kids))(g2:l[i2]? =some (.tr (Rt.row (Rt.of (Rp.int .i8)) 224 []) [v2] d x.ring))(g3:l[i3]? =some (.tr (Rt.row (Rt.of fM) 250 []) [v3] e x.low))(g4:l[i4]? =some (.tr (Rt.row (Rt.of fM) 250 []) [v4] f x.high))(h:(Th.fz (.sl dB v0 x.c.Kids)).holds (frees O l) w)(i:[a,i2,i3,i4].Nodup): ∃j,Hd O w0 w S (rest [a,i2,i3,i4] l++[.tr dD [.int .i64 x.c.Kind,.string (bs x.c.Name),.string (bs x.c.Other),.int .i64 x.c.Op,.int .i64 x.c.N,.int .i64 x.c.Frames,v0,v1,.int .i64 x.rule,.int .i64 x.now,.int .i64 x.kid,v2,.int .i64 x.at_,.int .i64 x.yes,.int .i64 x.no,.int .i64 x.known,v3,v4] j x]):=by
 have k:=H.V g1;have n:=H.V g2;have o:=H.V g3;have p:=H.V g4;exact⟨[]++(b++([]++([]++([]++(d++([]++([]++([]++([]++(e++(f))))))))))),H.unite [a,i2,i3,i4] i _ (by simp [Go.Lf.pick,bks,Th.blocks,g1,g2,g3,g4]) ⟨[_,_,_,_,_,_,_],_,[],_,rfl,rfl,⟨rfl,aAb h⟩,⟨[_],_,b,_,rfl,rfl,k,⟨[_],_,[],_,rfl,rfl,⟨rfl,rfl⟩,⟨[_],_,[],_,rfl,rfl,⟨rfl,rfl⟩,⟨[_],_,[],_,rfl,rfl,⟨rfl,rfl⟩,⟨[_],_,d,_,rfl,rfl,n,⟨[_],_,[],_,rfl,rfl,⟨rfl,rfl⟩,⟨[_],_,[],_,rfl,rfl,⟨rfl,rfl⟩,⟨[_],_,[],_,rfl,rfl,⟨rfl,rfl⟩,⟨[_],_,[],_,rfl,rfl,⟨rfl,rfl⟩,⟨[_],_,e,_,rfl,rfl,o,p⟩⟩⟩⟩⟩⟩⟩⟩⟩⟩⟩⟩

def fP:Rt gG:=Rt.iso (Rt.pair (Rt.of aMe) (Rt.pair (Rt.of (Rp.sl Rp.str)) (Rt.pair (Rt.of (Rp.sl (Rp.int .i64))) (Rt.pair (Rt.of (Rp.sl bH)) (Rt.pair (Rt.of (Rp.int .i64)) (Rt.pair (Rt.of (Rp.sl Rp.bool)) (Rt.pair (Rt.row dD 85 []) (Rt.pair (Rt.of (Rp.int .i64)) (Rt.pair (Rt.row (Rt.of (Rp.int .i64)) 3 []) (Rt.row (Rt.of (Rp.int .i64)) 3 [])))))))))) λx=>(x.r,x.names,x.dens,x.told,x.frames,x.phase,x.nodes,x.first,x.moves,x.rules)
theorem jL {cs:List Value}{o:List Nat}{x:gG}{w w0:World}{O S:List Nat}{l:List Th}(H:Hd O w0 w S l)(i:Nat)(hi:l[i]? =some (.tr fP cs o x)): ∃v0 v1 v2 v3 v4 v5 c a d b e v9 f,cs=[v0,v1,v2,v3,v4,v5,.int .i64 x.frames,c,a,.int .i64 x.first,b,v9]/\Hd O w0 w S (rest [i] l++[.tr (Rt.row dD 85 []) [a] d x.nodes,.tr (Rt.row (Rt.of (Rp.int .i64)) 3 []) [b] e x.moves,.tr (Rt.row (Rt.of (Rp.int .i64)) 3 []) [v9] f x.rules,.fz (.sl Rp.str v0 x.r.Phases),.fz (.sl fV v1 x.r.Moves),.fz (.sl eY v2 x.r.Rules),.fz (.sl Rp.str v3 x.names),.fz (.sl (Rp.int .i64) v4 x.dens),.fz (.sl bH v5 x.told),.fz (.sl Rp.bool c x.phase)]):=by
 obtain⟨_,_,_,_,rfl,rfl,⟨rfl,p⟩,⟨_,_,_,_,rfl,rfl,⟨rfl,v3,rfl,q⟩,⟨_,_,_,_,rfl,rfl,⟨rfl,v4,rfl,s⟩,⟨_,_,_,_,rfl,rfl,⟨rfl,v5,rfl,t⟩,⟨_,_,_,_,rfl,rfl,⟨rfl,rfl⟩,⟨_,_,_,_,rfl,rfl,⟨rfl,c,rfl,u⟩,⟨_,_,d,_,rfl,rfl,⟨a,h,z,rfl,A,B,C⟩,⟨_,_,_,_,rfl,rfl,⟨rfl,rfl⟩,⟨_,_,e,f,rfl,rfl,⟨b,j,D,rfl,E,G,I⟩,⟨v9,k,c9,rfl,J,K,L⟩⟩⟩⟩⟩⟩⟩⟩⟩⟩:=H.V hi;obtain⟨v0,v1,v2,rfl,M,N,P⟩:=aIk p;refine⟨v0,v1,v2,v3,v4,v5,c,a,d,b,e,v9,f,rfl,H.split i hi _ (by simp [bks,Th.blocks]) λ_ n=>?_⟩;simp only [List.mem_cons,List.not_mem_nil,or_false]at n;rcases n with rfl|rfl|rfl|rfl|rfl|rfl|rfl|rfl|rfl|rfl
 ·exact⟨a,h,z,rfl,A,B,C⟩
 ·exact⟨b,j,D,rfl,E,G,I⟩
 ·exact⟨v9,k,c9,rfl,J,K,L⟩
 ·exact M
 ·exact N
 ·exact P
 ·exact q
 ·exact s
 ·exact t
 ·exact u
theorem xR {x:gG}{w w0:World}{O S:List Nat}{l:List Th}{e:Value}{c:List Nat}{f:Value}{d:List Nat}{v9:Value}{h:List Nat}{v0 v1 v2 v3 v4 v5 i:Value}(H:Hd O w0 w S l)(a b i9:Nat)(g7:l[a]? =some (.tr (Rt.row dD 85 []) [e] c x.nodes))(g8:l[b]? =some (.tr (Rt.row (Rt.of (Rp.int .i64)) 3 []) [f] d x.moves))(g9:l[i9]? =some (.tr (Rt.row (Rt.of (Rp.int .i64)) 3 []) [v9] h x.rules))(j:(Th.fz (.sl Rp.str v0 x.r.Phases)).holds (frees O l) w)(k:(Th.fz (.sl fV v1 x.r.Moves)).holds (frees O l) w)(n:(Th.fz (.sl eY v2 x.r.Rules)).holds (frees O l) w)(o:(Th.fz (.sl Rp.str v3 x.names)).holds (frees O l) w)(p:(Th.fz (.sl (Rp.int .i64) v4 x.dens)).holds (frees O l) w)(q:(Th.fz (.sl bH v5 x.told)).holds (frees O l) w)(s:(Th.fz (.sl Rp.bool i x.phase)).holds (frees O l) w)(t:[a,b,i9].Nodup): ∃u,Hd O w0 w S (rest [a,b,i9] l++[.tr fP [v0,v1,v2,v3,v4,v5,.int .i64 x.frames,i,e,.int .i64 x.first,f,v9] u x]):=by
 have y:=H.V g7;have z:=H.V g8;have A:=H.V g9;exact⟨[]++([]++([]++([]++([]++([]++(c++([]++(d++(h))))))))),H.unite [a,b,i9] t _ (by simp [Go.Lf.pick,bks,Th.blocks,g7,g8,g9]) ⟨[_,_,_],_,[],_,rfl,rfl,⟨rfl,rRules_mk j k n⟩,⟨[_],_,[],_,rfl,rfl,⟨rfl,_,rfl,o⟩,⟨[_],_,[],_,rfl,rfl,⟨rfl,_,rfl,p⟩,⟨[_],_,[],_,rfl,rfl,⟨rfl,_,rfl,q⟩,⟨[_],_,[],_,rfl,rfl,⟨rfl,rfl⟩,⟨[_],_,[],_,rfl,rfl,⟨rfl,_,rfl,s⟩,⟨[_],_,c,_,rfl,rfl,y,⟨[_],_,[],_,rfl,rfl,⟨rfl,rfl⟩,⟨[_],_,d,_,rfl,rfl,z,A⟩⟩⟩⟩⟩⟩⟩⟩⟩⟩

structure gZ where
 v:Option gG
def bC:Rt gZ:=Rt.iso (Rt.opt fP 77) λx=>x.v
theorem vZ {cs:List Value}{a:List Nat}{x:gZ}{w w0:World}{O S:List Nat}{l:List Th}(H:Hd O w0 w S l)(i:Nat)(hi:l[i]? =some (.tr bC cs a x)): ∃v0 c,cs=[v0]/\Hd O w0 w S (rest [i] l++[.tr (Rt.opt fP 77) [v0] c x.v]):=by
 have h:=H.V hi;obtain⟨v0,rfl⟩: ∃v0,cs=[v0]:=by
  have q:=(Rt.opt fP 77).len h
  match cs,q with
  | [v0],_=>exact⟨v0,rfl⟩
 refine⟨v0,a,rfl,H.split i hi _ (by simp [bks,Th.blocks]) λ_ b=>?_⟩;simp only [List.mem_cons,List.not_mem_nil,or_false]at b;subst b;exact h
theorem qN {x:gZ}{w w0:World}{O S:List Nat}{l:List Th}{v0:Value}{a:List Nat}(H:Hd O w0 w S l)(i0:Nat)(g0:l[i0]? =some (.tr (Rt.opt fP 77) [v0] a x.v)): ∃b,Hd O w0 w S (rest [i0] l++[.tr bC [v0] b x]):=by
 have h:=H.V g0;exact⟨a,H.unite [i0] (by simp) _ (by simp [Go.Lf.pick,bks,Th.blocks,g0]) h⟩

end Go.Lf
