/- The nodes of conditions. -/
import Derived.Test.YthllgjnlmjpinaaGreatDoorXVp
import Derived.Test.YthllgjnlmjpinaaGreatDoorLfT
namespace Go.Lf
open Go.RowKit Go.OB
structure dB where
  N:Int
  Known:Bool
  deriving DecidableEq
def fM:Rp dB:=Rp.iso (Rp.pair (Rp.int .i64) Rp.bool) fun x=>(x.N,x.Known)
theorem pG {F:Nat→Prop}{w:World}{cs:List Value}{x:dB}(h:fM.rd F w cs x):cs= [.int .i64 x.N,.bool x.Known]:=by
 obtain ⟨_,_,rfl,rfl,rfl⟩:=h;exact rfl
theorem aJi {F:Nat→Prop}{w:World}{x:dB}:fM.rd F w [.int .i64 x.N,.bool x.Known] x:=⟨[_],_,rfl,rfl,rfl⟩
structure nV where
  truth:Int
  deriving DecidableEq
structure kV where
  track:Int
  op:Int
  n:Int
  deriving DecidableEq
structure nG where
  a:Int
  b:Int
  denA:Int
  denB:Int
  op:Int
  deriving DecidableEq
structure jM where
  phase:Int
  deriving DecidableEq
structure wM where
  rule:Int
  deriving DecidableEq
inductive Nd where
  | constant (truth:Int)
  | number (track:Int) (op:Int) (n:Int)
  | pair (a:Int) (b:Int) (denA:Int) (denB:Int) (op:Int)
  | steady (track:Int) (n:Int) (frames:Int) (last:List dB)
  | phase (phase:Int)
  | rule (rule:Int)
  | not (kid:Nd)
  | group (kids:List Nd) (any:Bool)
  | count (kid:Nd) (n:Int) (frames:Int) (last:List Int) (totals:Arr 3 Int)
  | since (while_:Nd) (from_:Nd) (last:Int) (begun:Bool)
  | rises (kid:Nd) (last:Int) (begun:Bool)
mutual
inductive NdO (F:Nat→Prop) (w:World):Value→List Nat→Nd→Prop
  | constant {truth:Int}:NdO F w (.iface 239 (.agg ([.int .i64 truth]).toArray)) [] (.constant truth)
  | number {track:Int} {op:Int} {n:Int}:NdO F w (.iface 241 (.agg ([.int .i64 track,.int .i64 op,.int .i64 n]).toArray)) [] (.number track op n)
  | pair {a:Int} {b:Int} {denA:Int} {denB:Int} {op:Int}:NdO F w (.iface 243 (.agg ([.int .i64 a,.int .i64 b,.int .i64 denA,.int .i64 denB,.int .i64 op]).toArray)) [] (.pair a b denA denB op)
  | steady {track:Int} {n:Int} {frames:Int} {last:List dB} {b:Nat} {vlast:Value} {blast:List Nat}:(Rt.row (Rt.of fM) 224 []).rd F w [vlast] blast last→Blk w b ([.int .i64 track,.int .i64 n,.int .i64 frames,vlast]) 246→NdO F w (.iface 244 (.pointer (some ⟨b,0,none⟩))) (blast++ [b]) (.steady track n frames last)
  | phase {phase:Int}:NdO F w (.iface 248 (.agg ([.int .i64 phase]).toArray)) [] (.phase phase)
  | rule {rule:Int}:NdO F w (.iface 250 (.agg ([.int .i64 rule]).toArray)) [] (.rule rule)
  | not {kid:Nd} {b:Nat} {vkid:Value} {bkid:List Nat}:NdO F w vkid bkid kid→Blk w b ([vkid]) 253→NdO F w (.iface 251 (.pointer (some ⟨b,0,none⟩))) (bkid++ [b]) (.not kid)
  | group {kids:List Nd} {any:Bool} {b:Nat} {vkids:Value} {bkids:List Nat} {xkids:List Value} {ckids:List Nat}:NdsO F w xkids ckids kids→OwO w 212 1 vkids kids.length xkids→bkids=ob vkids++ckids→Blk w b ([vkids,.bool any]) 256→NdO F w (.iface 254 (.pointer (some ⟨b,0,none⟩))) (bkids++ [b]) (.group kids any)
  | count {kid:Nd} {n:Int} {frames:Int} {last:List Int} {totals:Arr 3 Int} {b:Nat} {vkid:Value} {bkid:List Nat} {vlast:Value} {blast:List Nat}:NdO F w vkid bkid kid→(Rt.row (Rt.of (Rp.int .i64)) 3 []).rd F w [vlast] blast last→Blk w b ([vkid,.int .i64 n,.int .i64 frames,vlast]++((Fl.arr 3 (Fl.int .i64)).f totals)) 260→NdO F w (.iface 257 (.pointer (some ⟨b,0,none⟩))) (bkid++(blast++ [b])) (.count kid n frames last totals)
  | since {while_:Nd} {from_:Nd} {last:Int} {begun:Bool} {b:Nat} {vwhile_:Value} {bwhile_:List Nat} {vfrom_:Value} {bfrom_:List Nat}:NdO F w vwhile_ bwhile_ while_→NdO F w vfrom_ bfrom_ from_→Blk w b ([vwhile_,vfrom_,.int .i64 last,.bool begun]) 263→NdO F w (.iface 261 (.pointer (some ⟨b,0,none⟩))) (bwhile_++(bfrom_++ [b])) (.since while_ from_ last begun)
  | rises {kid:Nd} {last:Int} {begun:Bool} {b:Nat} {vkid:Value} {bkid:List Nat}:NdO F w vkid bkid kid→Blk w b ([vkid,.int .i64 last,.bool begun]) 266→NdO F w (.iface 264 (.pointer (some ⟨b,0,none⟩))) (bkid++ [b]) (.rises kid last begun)
inductive NdsO (F:Nat→Prop) (w:World):List Value→List Nat→List Nd→Prop
  | nil:NdsO F w [] [] []
  | cons {v:Value} {b:List Nat} {x:Nd} {vs:List Value} {bs:List Nat} {l:List Nd}:NdO F w v b x→NdsO F w vs bs l→NdsO F w (v :: vs) (b++bs) (x :: l)
end
section
variable {F F':Nat→Prop} {w w':World} {v:Value} {bs:List Nat} {x:Nd}
theorem NdO.mono (hs:Same F F' w w')(h:NdO F w v bs x):(∀k ∈ bs,w'.heap[k]? =w.heap[k]?)→NdO F' w' v bs x:=by
 refine NdO.rec (motive_1:=fun v bs x _=>(∀k ∈ bs,w'.heap[k]? =w.heap[k]?)→NdO F' w' v bs x) (motive_2:=fun vs bs l _=>(∀k ∈ bs,w'.heap[k]? =w.heap[k]?)→NdsO F' w' vs bs l) ?_ ?_ ?_ ?_ ?_ ?_ ?_ ?_ ?_ ?_ ?_ ?_ ?_ h;intros; exact .constant;intros; exact .number;intros; exact .pair;intros; rename_i hlast hb hk; exact .steady (Rt.mono _ hs (fun x hx=>hk x (List.mem_append_left _ hx)) hlast) (jC hb (hk _ (List.mem_append_right _ (List.mem_singleton.2 rfl))));intros; exact .phase;intros; exact .rule;intros; rename_i hkid hb ikid hk; exact .not (ikid fun x hx=>hk x (List.mem_append_left _ hx)) (jC hb (hk _ (List.mem_append_right _ (List.mem_singleton.2 rfl))));intros; rename_i hkids okids ekids hb ikids hk; exact .group (ikids fun x hx=>hk x (List.mem_append_left _ (by rw [ekids]; exact List.mem_append_right _ hx))) (OwO.same okids fun x hx=>hk x (List.mem_append_left _ (by rw [ekids]; exact List.mem_append_left _ hx))) ekids (jC hb (hk _ (List.mem_append_right _ (List.mem_singleton.2 rfl))));intros; rename_i hkid hlast hb ikid hk; exact .count (ikid fun x hx=>hk x (List.mem_append_left _ hx)) (Rt.mono _ hs (fun x hx=>hk x (List.mem_append_right _ (List.mem_append_left _ hx))) hlast) (jC hb (hk _ (List.mem_append_right _ (List.mem_append_right _ (List.mem_singleton.2 rfl)))));intros; rename_i hwhile_ hfrom_ hb iwhile_ ifrom_ hk; exact .since (iwhile_ fun x hx=>hk x (List.mem_append_left _ hx)) (ifrom_ fun x hx=>hk x (List.mem_append_right _ (List.mem_append_left _ hx))) (jC hb (hk _ (List.mem_append_right _ (List.mem_append_right _ (List.mem_singleton.2 rfl)))))
 intros; rename_i hkid hb ikid hk; exact .rises (ikid fun x hx=>hk x (List.mem_append_left _ hx)) (jC hb (hk _ (List.mem_append_right _ (List.mem_singleton.2 rfl))));intros; exact .nil;intros; rename_i h1 h2 i1 i2 hk; exact .cons (i1 fun x hx=>hk x (List.mem_append_left _ hx)) (i2 fun x hx=>hk x (List.mem_append_right _ hx))
theorem NdO.one (h:NdO F w v bs x):v.oneCell'=true:=by cases h<;>rfl
end
def eG:Rt Nd:=⟨1,fun F w cs bs x=> ∃v,cs= [v]∧NdO F w v bs x,fun ⟨v,e,_⟩=>by subst e; rfl,fun ⟨v,e,h⟩=>by subst e; simpa using h.one,fun hs hb ⟨v,e,h⟩=>⟨v,e,h.mono hs hb⟩⟩
theorem aDh {F : Nat → Prop} {w : World} : ∀ {l : List Nd} {i : Nat} {vs : List Value} {bs : List Nat}, kM eG F w [] i vs bs l ↔ NdsO F w vs bs l
  | [], _, vs, bs => ⟨fun h => by rw [h.1, h.2]; exact .nil, fun h => by cases h; exact ⟨rfl, rfl⟩⟩
  | x :: l, i, vs, bs => by
    constructor
    · rintro ⟨c, d, b1, b2, rfl, rfl, h1, h2⟩
      obtain ⟨v, rfl, h1⟩ := h1
      exact .cons h1 (aDh.1 h2)
    · intro h
      cases h with
      | cons h1 h2 => exact ⟨_, _, _, _, rfl, rfl, ⟨_, rfl, h1⟩, aDh.2 h2⟩
structure dU where
  track:Int
  n:Int
  frames:Int
  last:List dB
structure jG where
  kid:Nd
structure aP where
  kids:List Nd
  any:Bool
structure dJ where
  kid:Nd
  n:Int
  frames:Int
  last:List Int
  totals:Arr 3 Int
structure aN where
  while_:Nd
  from_:Nd
  last:Int
  begun:Bool
structure aO where
  kid:Nd
  last:Int
  begun:Bool
section hd
variable {w w0:World} {v:Value} {bs:List Nat} {O S:List Nat} {l:List Th}
theorem aGt {track:Int}{n:Int}{frames:Int}{last:List dB}(H:Hd O w0 w S l)(i:Nat)(hi:l[i]? =some (.tr eG [v] bs (.steady track n frames last))): ∃b vlast blast,v=(.iface 244 (.pointer (some ⟨b,0,none⟩)))∧Hd O w0 w S (rest [i] l++ [.tr (Rt.row (Rt.of fM) 224 []) [vlast] blast last,.blk b ([.int .i64 track,.int .i64 n,.int .i64 frames,vlast]) 246]):=by
  obtain ⟨v1,e1,h⟩:=H.item hi
  obtain rfl:v=v1:=by simpa using e1
  cases h with
  | steady hlast hb=>
    rename_i b vlast blast
    refine ⟨b,vlast,blast,rfl,H.split i hi _ (by simp [bks,Th.blocks]) fun x hx=>?_⟩
    simp only [List.mem_cons,List.not_mem_nil,or_false] at hx
    rcases hx with rfl | rfl
    · exact hlast
    · exact hb
theorem aCl {track:Int}{n:Int}{frames:Int}{last:List dB}{b:Nat}{vlast:Value}{blast:List Nat}(H:Hd O w0 w S l)(ilast ib:Nat)(hlast:l[ilast]? =some (.tr (Rt.row (Rt.of fM) 224 []) [vlast] blast last))(hb:l[ib]? =some (.blk b ([.int .i64 track,.int .i64 n,.int .i64 frames,vlast]) 246))(hn: [ilast,ib].Nodup): ∃bs,Hd O w0 w S (rest [ilast,ib] l++ [.tr eG [(.iface 244 (.pointer (some ⟨b,0,none⟩)))] bs (.steady track n frames last)]):=by
 refine ⟨(blast++ [b]),H.unite [ilast,ib] hn _ ?_ ⟨_,rfl,.steady (H.item hlast) (H.item hb)⟩⟩;simp [Go.Lf.pick,bks,Th.blocks,hlast,hb]
theorem aOr {kid:Nd}(H:Hd O w0 w S l)(i:Nat)(hi:l[i]? =some (.tr eG [v] bs (.not kid))): ∃b vkid bkid,v=(.iface 251 (.pointer (some ⟨b,0,none⟩)))∧Hd O w0 w S (rest [i] l++ [.tr eG [vkid] bkid kid,.blk b ([vkid]) 253]):=by
  obtain ⟨v1,e1,h⟩:=H.item hi
  obtain rfl:v=v1:=by simpa using e1
  cases h with
  | not hkid hb=>
    rename_i b vkid bkid
    refine ⟨b,vkid,bkid,rfl,H.split i hi _ (by simp [bks,Th.blocks]) fun x hx=>?_⟩
    simp only [List.mem_cons,List.not_mem_nil,or_false] at hx
    rcases hx with rfl | rfl
    · exact ⟨vkid,rfl,hkid⟩
    · exact hb
theorem aKf {kid:Nd}{b:Nat}{vkid:Value}{bkid:List Nat}(H:Hd O w0 w S l)(ikid ib:Nat)(hkid:l[ikid]? =some (.tr eG [vkid] bkid kid))(hb:l[ib]? =some (.blk b ([vkid]) 253))(hn: [ikid,ib].Nodup): ∃bs,Hd O w0 w S (rest [ikid,ib] l++ [.tr eG [(.iface 251 (.pointer (some ⟨b,0,none⟩)))] bs (.not kid)]):=by
 obtain ⟨wkid,ekid,qkid⟩:=H.item hkid;obtain rfl:vkid=wkid:=by simpa using ekid
 refine ⟨(bkid++ [b]),H.unite [ikid,ib] hn _ ?_ ⟨_,rfl,.not qkid (H.item hb)⟩⟩;simp [Go.Lf.pick,bks,Th.blocks,hkid,hb]
theorem aIl {kids:List Nd}{any:Bool}(H:Hd O w0 w S l)(i:Nat)(hi:l[i]? =some (.tr eG [v] bs (.group kids any))): ∃b vkids bkids,v=(.iface 254 (.pointer (some ⟨b,0,none⟩)))∧Hd O w0 w S (rest [i] l++ [.tr (Rt.row eG 212 []) [vkids] bkids kids,.blk b ([vkids,.bool any]) 256]):=by
  obtain ⟨v1,e1,h⟩:=H.item hi
  obtain rfl:v=v1:=by simpa using e1
  cases h with
  | group hkids okids ekids hb=>
    rename_i b vkids bkids xkids ckids
    refine ⟨b,vkids,bkids,rfl,H.split i hi _ (by simp [bks,Th.blocks]) fun x hx=>?_⟩
    simp only [List.mem_cons,List.not_mem_nil,or_false] at hx
    rcases hx with rfl | rfl
    · exact ⟨vkids,_,_,rfl,ekids,aDh.2 hkids,okids⟩
    · exact hb
theorem aEu {kids:List Nd}{any:Bool}{b:Nat}{vkids:Value}{bkids:List Nat}(H:Hd O w0 w S l)(ikids ib:Nat)(hkids:l[ikids]? =some (.tr (Rt.row eG 212 []) [vkids] bkids kids))(hb:l[ib]? =some (.blk b ([vkids,.bool any]) 256))(hn: [ikids,ib].Nodup): ∃bs,Hd O w0 w S (rest [ikids,ib] l++ [.tr eG [(.iface 254 (.pointer (some ⟨b,0,none⟩)))] bs (.group kids any)]):=by
 obtain ⟨wkids,xs,b1,ekids,fkids,qkids,rkids⟩:=H.item hkids;obtain rfl:vkids=wkids:=by simpa using ekids
 refine ⟨(bkids++ [b]),H.unite [ikids,ib] hn _ ?_ ⟨_,rfl,.group (aDh.1 qkids) rkids fkids (H.item hb)⟩⟩;simp [Go.Lf.pick,bks,Th.blocks,hkids,hb]
theorem aIv {kid:Nd}{n:Int}{frames:Int}{last:List Int}{totals:Arr 3 Int}(H:Hd O w0 w S l)(i:Nat)(hi:l[i]? =some (.tr eG [v] bs (.count kid n frames last totals))): ∃b vkid bkid vlast blast,v=(.iface 257 (.pointer (some ⟨b,0,none⟩)))∧Hd O w0 w S (rest [i] l++ [.tr eG [vkid] bkid kid,.tr (Rt.row (Rt.of (Rp.int .i64)) 3 []) [vlast] blast last,.blk b ([vkid,.int .i64 n,.int .i64 frames,vlast]++((Fl.arr 3 (Fl.int .i64)).f totals)) 260]):=by
  obtain ⟨v1,e1,h⟩:=H.item hi
  obtain rfl:v=v1:=by simpa using e1
  cases h with
  | count hkid hlast hb=>
    rename_i b vkid bkid vlast blast
    refine ⟨b,vkid,bkid,vlast,blast,rfl,H.split i hi _ (by simp [bks,Th.blocks]) fun x hx=>?_⟩
    simp only [List.mem_cons,List.not_mem_nil,or_false] at hx
    rcases hx with rfl | rfl | rfl
    · exact ⟨vkid,rfl,hkid⟩
    · exact hlast
    · exact hb
theorem rH {kid:Nd}{n:Int}{frames:Int}{last:List Int}{totals:Arr 3 Int}{b:Nat}{vkid:Value}{bkid:List Nat}{vlast:Value}{blast:List Nat}(H:Hd O w0 w S l)(ikid ilast ib:Nat)(hkid:l[ikid]? =some (.tr eG [vkid] bkid kid))(hlast:l[ilast]? =some (.tr (Rt.row (Rt.of (Rp.int .i64)) 3 []) [vlast] blast last))(hb:l[ib]? =some (.blk b ([vkid,.int .i64 n,.int .i64 frames,vlast]++((Fl.arr 3 (Fl.int .i64)).f totals)) 260))(hn: [ikid,ilast,ib].Nodup): ∃bs,Hd O w0 w S (rest [ikid,ilast,ib] l++ [.tr eG [(.iface 257 (.pointer (some ⟨b,0,none⟩)))] bs (.count kid n frames last totals)]):=by
 obtain ⟨wkid,ekid,qkid⟩:=H.item hkid;obtain rfl:vkid=wkid:=by simpa using ekid
 refine ⟨(bkid++(blast++ [b])),H.unite [ikid,ilast,ib] hn _ ?_ ⟨_,rfl,.count qkid (H.item hlast) (H.item hb)⟩⟩;simp [Go.Lf.pick,bks,Th.blocks,hkid,hlast,hb]
theorem aIo {while_:Nd}{from_:Nd}{last:Int}{begun:Bool}(H:Hd O w0 w S l)(i:Nat)(hi:l[i]? =some (.tr eG [v] bs (.since while_ from_ last begun))): ∃b vwhile_ bwhile_ vfrom_ bfrom_,v=(.iface 261 (.pointer (some ⟨b,0,none⟩)))∧Hd O w0 w S (rest [i] l++ [.tr eG [vwhile_] bwhile_ while_,.tr eG [vfrom_] bfrom_ from_,.blk b ([vwhile_,vfrom_,.int .i64 last,.bool begun]) 263]):=by
  obtain ⟨v1,e1,h⟩:=H.item hi
  obtain rfl:v=v1:=by simpa using e1
  cases h with
  | since hwhile_ hfrom_ hb=>
    rename_i b vwhile_ bwhile_ vfrom_ bfrom_
    refine ⟨b,vwhile_,bwhile_,vfrom_,bfrom_,rfl,H.split i hi _ (by simp [bks,Th.blocks]) fun x hx=>?_⟩
    simp only [List.mem_cons,List.not_mem_nil,or_false] at hx
    rcases hx with rfl | rfl | rfl
    · exact ⟨vwhile_,rfl,hwhile_⟩
    · exact ⟨vfrom_,rfl,hfrom_⟩
    · exact hb
theorem aEs {while_:Nd}{from_:Nd}{last:Int}{begun:Bool}{b:Nat}{vwhile_:Value}{bwhile_:List Nat}{vfrom_:Value}{bfrom_:List Nat}(H:Hd O w0 w S l)(iwhile_ ifrom_ ib:Nat)(hwhile_:l[iwhile_]? =some (.tr eG [vwhile_] bwhile_ while_))(hfrom_:l[ifrom_]? =some (.tr eG [vfrom_] bfrom_ from_))(hb:l[ib]? =some (.blk b ([vwhile_,vfrom_,.int .i64 last,.bool begun]) 263))(hn: [iwhile_,ifrom_,ib].Nodup): ∃bs,Hd O w0 w S (rest [iwhile_,ifrom_,ib] l++ [.tr eG [(.iface 261 (.pointer (some ⟨b,0,none⟩)))] bs (.since while_ from_ last begun)]):=by
 obtain ⟨wwhile_,ewhile_,qwhile_⟩:=H.item hwhile_;obtain rfl:vwhile_=wwhile_:=by simpa using ewhile_
 obtain ⟨wfrom_,efrom_,qfrom_⟩:=H.item hfrom_;obtain rfl:vfrom_=wfrom_:=by simpa using efrom_
 refine ⟨(bwhile_++(bfrom_++ [b])),H.unite [iwhile_,ifrom_,ib] hn _ ?_ ⟨_,rfl,.since qwhile_ qfrom_ (H.item hb)⟩⟩;simp [Go.Lf.pick,bks,Th.blocks,hwhile_,hfrom_,hb]
theorem aIs {kid:Nd}{last:Int}{begun:Bool}(H:Hd O w0 w S l)(i:Nat)(hi:l[i]? =some (.tr eG [v] bs (.rises kid last begun))): ∃b vkid bkid,v=(.iface 264 (.pointer (some ⟨b,0,none⟩)))∧Hd O w0 w S (rest [i] l++ [.tr eG [vkid] bkid kid,.blk b ([vkid,.int .i64 last,.bool begun]) 266]):=by
  obtain ⟨v1,e1,h⟩:=H.item hi
  obtain rfl:v=v1:=by simpa using e1
  cases h with
  | rises hkid hb=>
    rename_i b vkid bkid
    refine ⟨b,vkid,bkid,rfl,H.split i hi _ (by simp [bks,Th.blocks]) fun x hx=>?_⟩
    simp only [List.mem_cons,List.not_mem_nil,or_false] at hx
    rcases hx with rfl | rfl
    · exact ⟨vkid,rfl,hkid⟩
    · exact hb
theorem aEl {kid:Nd}{last:Int}{begun:Bool}{b:Nat}{vkid:Value}{bkid:List Nat}(H:Hd O w0 w S l)(ikid ib:Nat)(hkid:l[ikid]? =some (.tr eG [vkid] bkid kid))(hb:l[ib]? =some (.blk b ([vkid,.int .i64 last,.bool begun]) 266))(hn: [ikid,ib].Nodup): ∃bs,Hd O w0 w S (rest [ikid,ib] l++ [.tr eG [(.iface 264 (.pointer (some ⟨b,0,none⟩)))] bs (.rises kid last begun)]):=by
 obtain ⟨wkid,ekid,qkid⟩:=H.item hkid;obtain rfl:vkid=wkid:=by simpa using ekid
 refine ⟨(bkid++ [b]),H.unite [ikid,ib] hn _ ?_ ⟨_,rfl,.rises qkid (H.item hb)⟩⟩;simp [Go.Lf.pick,bks,Th.blocks,hkid,hb]
theorem aEh {truth:Int}(H:Hd O w0 w S l)(i:Nat)(hi:l[i]? =some (.tr eG [v] bs (.constant truth))):v=(.iface 239 (.agg ([.int .i64 truth]).toArray)):=by
 obtain ⟨v1,e1,h⟩:=H.item hi;obtain rfl:v=v1:=by simpa using e1
 cases h; rfl
theorem vC {truth:Int}(H:Hd O w0 w S l):Hd O w0 w S (l++ [.tr eG [(.iface 239 (.agg ([.int .i64 truth]).toArray))] [] (.constant truth)]):=
  H.add (Only.refl [] w) (fun _=>⟨_,rfl,.constant⟩) (by simp [Th.blocks]) (by simp [Th.blocks])
theorem aGw {track:Int}{op:Int}{n:Int}(H:Hd O w0 w S l)(i:Nat)(hi:l[i]? =some (.tr eG [v] bs (.number track op n))):v=(.iface 241 (.agg ([.int .i64 track,.int .i64 op,.int .i64 n]).toArray)):=by
 obtain ⟨v1,e1,h⟩:=H.item hi;obtain rfl:v=v1:=by simpa using e1
 cases h; rfl
theorem aMc {track:Int}{op:Int}{n:Int}(H:Hd O w0 w S l):Hd O w0 w S (l++ [.tr eG [(.iface 241 (.agg ([.int .i64 track,.int .i64 op,.int .i64 n]).toArray))] [] (.number track op n)]):=
  H.add (Only.refl [] w) (fun _=>⟨_,rfl,.number⟩) (by simp [Th.blocks]) (by simp [Th.blocks])
theorem aLf {a:Int}{b:Int}{denA:Int}{denB:Int}{op:Int}(H:Hd O w0 w S l)(i:Nat)(hi:l[i]? =some (.tr eG [v] bs (.pair a b denA denB op))):v=(.iface 243 (.agg ([.int .i64 a,.int .i64 b,.int .i64 denA,.int .i64 denB,.int .i64 op]).toArray)):=by
 obtain ⟨v1,e1,h⟩:=H.item hi;obtain rfl:v=v1:=by simpa using e1
 cases h; rfl
theorem aRc {a:Int}{b:Int}{denA:Int}{denB:Int}{op:Int}(H:Hd O w0 w S l):Hd O w0 w S (l++ [.tr eG [(.iface 243 (.agg ([.int .i64 a,.int .i64 b,.int .i64 denA,.int .i64 denB,.int .i64 op]).toArray))] [] (.pair a b denA denB op)]):=
  H.add (Only.refl [] w) (fun _=>⟨_,rfl,.pair⟩) (by simp [Th.blocks]) (by simp [Th.blocks])
theorem aIu {phase:Int}(H:Hd O w0 w S l)(i:Nat)(hi:l[i]? =some (.tr eG [v] bs (.phase phase))):v=(.iface 248 (.agg ([.int .i64 phase]).toArray)):=by
 obtain ⟨v1,e1,h⟩:=H.item hi;obtain rfl:v=v1:=by simpa using e1
 cases h; rfl
theorem aOo {phase:Int}(H:Hd O w0 w S l):Hd O w0 w S (l++ [.tr eG [(.iface 248 (.agg ([.int .i64 phase]).toArray))] [] (.phase phase)]):=
  H.add (Only.refl [] w) (fun _=>⟨_,rfl,.phase⟩) (by simp [Th.blocks]) (by simp [Th.blocks])
theorem aMf {rule:Int}(H:Hd O w0 w S l)(i:Nat)(hi:l[i]? =some (.tr eG [v] bs (.rule rule))):v=(.iface 250 (.agg ([.int .i64 rule]).toArray)):=by
 obtain ⟨v1,e1,h⟩:=H.item hi;obtain rfl:v=v1:=by simpa using e1
 cases h; rfl
theorem aQd {rule:Int}(H:Hd O w0 w S l):Hd O w0 w S (l++ [.tr eG [(.iface 250 (.agg ([.int .i64 rule]).toArray))] [] (.rule rule)]):=
  H.add (Only.refl [] w) (fun _=>⟨_,rfl,.rule⟩) (by simp [Th.blocks]) (by simp [Th.blocks])
theorem aEo {F:Nat→Prop}{x:Nd}(h:(Th.tr eG [v] bs x).holds F w): ∃T u,v= .iface T u:=by
 obtain ⟨u,e,h⟩:=h;obtain rfl:v=u:=by simpa using e
 cases h<;>exact ⟨_,_,rfl⟩
structure fZ where
  from_:Int
  to:Int
  when:Nd
def fB:Rt fZ:=⟨3,fun F w cs bs x=> ∃v,cs= [.int .i64 x.from_,.int .i64 x.to,v]∧NdO F w v bs x.when,fun ⟨v,e,_⟩=>by subst e; rfl,
  fun ⟨v,e,h⟩=>by subst e; intro u hu; simp only [List.mem_cons,List.not_mem_nil,or_false] at hu; rcases hu with rfl | rfl | rfl<;>first | rfl | exact h.one,fun hs hb ⟨v,e,h⟩=>⟨v,e,h.mono hs hb⟩⟩
theorem sN {cs:List Value}{x:fZ}(H:Hd O w0 w S l)(i:Nat)(hi:l[i]? =some (.tr fB cs bs x)): ∃v b1,cs= [.int .i64 x.from_,.int .i64 x.to,v]∧Hd O w0 w S (rest [i] l++ [.tr eG [v] b1 x.when]):=by
 obtain ⟨v,e,h⟩:=H.item hi;exact ⟨v,bs,e,H.split i hi _ (by simp [bks,Th.blocks]) fun y hy=>by obtain rfl:=List.mem_singleton.1 hy; exact ⟨v,rfl,h⟩⟩
theorem mP {x:fZ}(H:Hd O w0 w S l)(i:Nat)(hi:l[i]? =some (.tr eG [v] bs x.when)): ∃b1,Hd O w0 w S (rest [i] l++ [.tr fB [.int .i64 x.from_,.int .i64 x.to,v] b1 x]):=by
 obtain ⟨u,e,h⟩:=H.item hi;obtain rfl:v=u:=by simpa using e
 exact ⟨bs,H.unite [i] (by simp) _ (by simp [Go.Lf.pick,hi,bks,Th.blocks]) ⟨v,rfl,h⟩⟩
structure fC where
  phases:List Str
  tracks:Int
  moves:List fZ
  rules:List Nd
  possible:List Bool
end hd
end Go.Lf
