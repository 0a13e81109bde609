/- Walks: what each function computes, for every argument; no condition but those that stand in the statements. -/
import Derived.Test.YthllgjnlmjpinaaGreatDoorFLa
import Derived.Test.YthllgjnlmjpinaaGreatDoorRPa
namespace Go.Lf
open Go.OB
structure Sam (m:Mask)(l k:List Flight):Prop where
  len:l.length=k.length
  chk:Fat l=Fat k
  at_: ∀(g:Int),gG (at' l g) (fun x=>Fah x m)=gG (at' k g) (fun x=>Fah x m)
theorem aNr {α β γ:Type}(a:Option α)(f:α→Option β)(g:β→Option γ):gG a (fun x=>gG (f x) g)=gG (gG a f) g:=by cases a<;>rfl
theorem Sam.nx {m:Mask}{l k:List Flight}(h:Sam m l k){β:Type}(g:Int)(K:Flight→Option β):gG (at' l g) (fun x=>gG (Fah x m) K)=gG (at' k g) (fun x=>gG (Fah x m) K):=by
 rw [aNr,aNr,h.at_ g]
theorem Sam.tab {m:Mask}{l k:List Flight}(h:Sam m l k)(r:Rules)(b:Int):Fae l r m b=Fae k r m b:=by
  have e: ∀n,Fba l r m b n=Fba k r m b n:=by
    intro n
    unfold Fba
    congr 1
    funext kk ⟨g1,g2,g3⟩
    simp only [h.nx]
  unfold Fae
  rw [h.chk,h.len]
  simp only [e]
theorem Sam.trend {m:Mask}{l k:List Flight}(h:Sam m l k)(r:Rules)(s:Str):Faq l r m s=Faq k r m s:=by
  have e: ∀n z,Fbn l r m n z=Fbn k r m n z:=by
    intro n z
    unfold Fbn
    congr 1
    funext kk ⟨g1,g2,g3,g4,g5⟩
    simp only [h.nx]
  unfold Faq
  rw [h.chk,h.len]
  simp only [e]
theorem at_one {α β : Type} (x y : α) (g : Int) (K : α → Option β) (h : K x = K y) : gG (at' [x] g) K = gG (at' [y] g) K := by
  unfold at'
  by_cases c : 0 ≤ g
  · rw [if_pos c, if_pos c]
    cases g.toNat with
    | zero => exact h
    | succ n => rfl
  · rw [if_neg c, if_neg c]
theorem Sam.peaks {m:Mask}{l k:List Flight}(h:Sam m l k)(s:Str):Fam [l] m s=Fam [k] m s:=by
  have e3: ∀z,Fbo m s l z=Fbo m s k z:=by
    intro z
    unfold Fbo
    congr 1
    funext kk ⟨g1,g2,g3,g4,g5⟩
    simp only [h.nx]
  have e1: ∀K z,Fa3 [l] K z=Fa3 [k] K z:=by
    intro K z
    unfold Fa3
    congr 1
    funext kk g
    rw [at_one l k g]
    rw [h.chk]
  have e2: ∀z,Fbl [l] m s z=Fbl [k] m s z:=by
    intro z
    unfold Fbl
    congr 1
    funext kk ⟨g1,g2,g3,g4⟩
    dsimp only
    rw [at_one l k g4]
    simp only [h.len,e3]
  unfold Fam
  simp only [e1,e2]
  rfl
theorem Sam.quant {m:Mask}{l k:List Flight}(h:Sam m l k)(s:Str)(a b:Int):Fap l m s a b=Fap k m s a b:=by
 unfold Fap; simp only [zM]; rw [h.peaks]
theorem Sam.mean {m:Mask}{l k:List Flight}(h:Sam m l k)(s:Str):Fay l m s=Fay k m s:=by
 unfold Fay; simp only [zM]; rw [h.peaks]
theorem Sam.odd {m:Mask}{l k:List Flight}(h:Sam m l k)(s:Str)(n:Int):Fas l m s n=Fas k m s n:=by
 unfold Fas; simp only [zM]; rw [h.peaks]
end Go.Lf
namespace Go.Lf
open Go.OB
theorem loop_out {γ β:Type}{body:(γ→Option β)→γ→Option β}{g:γ}{r:β}(h: ∀k,body k g=some r):fV body g=some r:=by
 unfold fV;obtain ⟨n,hn⟩: ∃n,FU=n+1:=⟨FU - 1,by have:=vJ (Nat.le_refl 9223372036854775807); omega⟩;rw [hn,fK]; exact h _
def dsm (g n:Int)(x:gZ):gZ:=
  if x.Mark<2 then x else if -562949953421312≤x.N - x.N % g∧x.N - x.N % g+g - 1≤562949953421312 then ⟨x.At,x.N - x.N % g+(x.N % g+n) % g,x.Mark⟩ else x
theorem aRn (g n:Int)(x:gZ):(dsm g n x).At=x.At∧(dsm g n x).Mark=x.Mark:=by unfold dsm; (repeat' split)<;>exact ⟨rfl,rfl⟩
theorem aTk {g n : Int} {x : gZ} (hg : 1 ≤ g) (hN : -1125899906842624 ≤ x.N ∧ x.N ≤ 1125899906842624) : -1125899906842624 ≤ (dsm g n x).N ∧ (dsm g n x).N ≤ 1125899906842624 := by
 have h1 := Int.emod_nonneg (x.N % g + n) (b := g) (by omega);have h2 := Int.emod_lt_of_pos (x.N % g + n) (b := g) (by omega);unfold dsm;split;exact hN;split;dsimp only; omega;exact hN
theorem dsm_low {g n : Int} {x : gZ} (hg : 1 ≤ g) : (dsm g n x).N - (dsm g n x).N % g = x.N - x.N % g := by
  have h1 := Int.emod_nonneg (x.N % g + n) (b := g) (by omega)
  have h2 := Int.emod_lt_of_pos (x.N % g + n) (b := g) (by omega)
  unfold dsm
  split
  · rfl
  · split
    · dsimp only
      have e : (x.N - x.N % g + (x.N % g + n) % g) % g = (x.N % g + n) % g := by
        have q := Int.emod_add_mul_ediv x.N g
        rw [show x.N - x.N % g + (x.N % g + n) % g = (x.N % g + n) % g + g * (x.N / g) by omega, Int.add_mul_emod_self_left, Int.emod_emod_of_dvd _ (Int.dvd_refl g)]
      rw [e]; omega
    · rfl
theorem cs_dsm {g n:Int}{x:gZ}(hg:1≤g):cs g (dsm g n x)=cs g x:=by
 obtain ⟨a,b⟩:=aRn g n x;have e:co g (dsm g n x).N=co g x.N:=by unfold co; rw [dsm_low hg]
 unfold cs;rw [a,b,e];by_cases c:2≤x.Mark;rw [decide_eq_true c]; rfl;rw [decide_eq_false c]; exact if_pos (show x.Mark<2 by omega)
theorem rest_eq (N g:Int)(hN: -1125899906842624≤N∧N≤1125899906842624)(hg:1≤g∧g≤1125899906842624):(IntKind.i64.wrap (N.tmod g+g)).tmod g=N % g:=by
 have t:=tm_neg N g hg.1;have h1:=Int.emod_nonneg N (b:=g) (by omega);have h2:=Int.emod_lt_of_pos N (b:=g) (by omega);split at t;rw [Go.OB.wrap_i64 (by omega) (by omega),t,Int.tmod_eq_emod_of_nonneg h1,Int.emod_emod_of_dvd _ (Int.dvd_refl g)];rw [Go.OB.wrap_i64 (by omega) (by omega),t,Int.tmod_eq_emod_of_nonneg (by omega),Int.add_emod_right,Int.emod_emod_of_dvd _ (Int.dvd_refl g)]
theorem disL4 {g : eY} {t : Track} {n : Int} (hg : 1 ≤ g.N ∧ g.N ≤ 1125899906842624) (hn : 0 ≤ n ∧ n ≤ 1099511627776) {l : List gZ} (hl : l.length ≤ 20000) (hN : ∀ x ∈ l, -1125899906842624 ≤ x.N ∧ x.N ≤ 1125899906842624) :
    Fft n t g (0, l) = some (if g.Track = t.Name then l.map (dsm g.N n) else l) := by
  unfold Fft
  by_cases hc : g.Track = t.Name
  · rw [if_pos hc]
    refine bI (fun i => ((i : Int), (l.take i).map (dsm g.N n) ++ l.drop i)) l (some (l.map (dsm g.N n))) (by omega) ?_ ?_
    · intro kk i x hx hi
      have hlen : ((l.take i).map (dsm g.N n)).length = i := by simp; omega
      have hall : (((l.take i).map (dsm g.N n) ++ l.drop i).length : Int) = (l.length : Int) := by rw [List.length_append, hlen, List.length_drop]; omega
      have hat : at' ((l.take i).map (dsm g.N n) ++ l.drop i) (i : Int) = some x := by
        rw [aAp, List.getElem?_append_right (by omega), hlen, Nat.sub_self, List.getElem?_drop, Nat.add_zero, hx]
      have hd : l.drop i = x :: l.drop (i + 1) := by rw [List.drop_eq_getElem_cons hi]; congr 1; rw [List.getElem?_eq_getElem hi] at hx; exact Option.some.inj hx
      have ht : l.take (i + 1) = l.take i ++ [x] := by rw [List.take_add_one, hx]; rfl
      have hset : ∀ y, set' ((l.take i).map (dsm g.N n) ++ l.drop i) (i : Int) y = some ((l.take i).map (dsm g.N n) ++ y :: l.drop (i + 1)) := by
        intro y
        unfold set'
        rw [if_pos (by rw [hall]; omega), Int.toNat_natCast, hd, List.set_append_right _ _ (by omega), hlen, Nat.sub_self]; rfl
      have b := hN x (List.mem_of_getElem? hx)
      have m1 := Int.emod_nonneg x.N (b := g.N) (by omega)
      have m2 := Int.emod_lt_of_pos x.N (b := g.N) (by omega)
      have m3 := Int.emod_nonneg (x.N % g.N + n) (b := g.N) (by omega)
      have m4 := Int.emod_lt_of_pos (x.N % g.N + n) (b := g.N) (by omega)
      have e1 : mW x.N g.N = some (x.N.tmod g.N) := by unfold mW; rw [if_neg (by omega)]
      have e2 : mW (IntKind.i64.wrap (x.N.tmod g.N + g.N)) g.N = some (x.N % g.N) := by unfold mW; rw [if_neg (by omega), rest_eq _ _ b hg]
      have e3 : mW (x.N % g.N + n) g.N = some ((x.N % g.N + n) % g.N) := by unfold mW; rw [if_neg (by omega), Int.tmod_eq_emod_of_nonneg (by omega)]
      have w1 : IntKind.i64.wrap (x.N - x.N % g.N) = x.N - x.N % g.N := Go.OB.wrap_i64 (by omega) (by omega)
      have w2 : IntKind.i64.wrap (x.N - x.N % g.N + g.N) = x.N - x.N % g.N + g.N := Go.OB.wrap_i64 (by omega) (by omega)
      have w3 : IntKind.i64.wrap (x.N - x.N % g.N + g.N - 1) = x.N - x.N % g.N + g.N - 1 := Go.OB.wrap_i64 (by omega) (by omega)
      have w4 : IntKind.i64.wrap (x.N % g.N + n) = x.N % g.N + n := Go.OB.wrap_i64 (by omega) (by omega)
      have w5 : IntKind.i64.wrap (x.N - x.N % g.N + (x.N % g.N + n) % g.N) = x.N - x.N % g.N + (x.N % g.N + n) % g.N := Go.OB.wrap_i64 (by omega) (by omega)
      simp only [zM, hall]
      rw [xE hi, yF, zI, decide_eq_true hc, yF, hat]
      simp only [zI]
      rw [eH hi (by omega), ht, List.map_append, List.append_assoc, e1]
      simp only [zI]
      rw [e2]
      simp only [zI, w1, w2, w3, w4]
      rw [e3]
      simp only [zI, w5, hset, wB]
      have fin : ∀ y : gZ, List.map (dsm g.N n) (l.take i) ++ (List.map (dsm g.N n) [x] ++ l.drop (i + 1)) = (l.take i).map (dsm g.N n) ++ dsm g.N n x :: l.drop (i + 1) := fun _ => rfl
      rw [fin x]
      unfold dsm
      by_cases c : x.Mark < 2
      · rw [if_pos c, if_pos c, zI, hd]
      · rw [if_neg c, if_neg c]
        by_cases d : -562949953421312 ≤ x.N - x.N % g.N
        · rw [if_pos d, zI]
          by_cases f : x.N - x.N % g.N + g.N - 1 ≤ 562949953421312
          · rw [decide_eq_true f, yF, zI, if_pos ⟨d, f⟩]
          · rw [decide_eq_false f, yE, zI, if_neg (fun q => f q.2), hd]
        · rw [if_neg d, zI, yE, zI, if_neg (fun q => d q.1), hd]
    · intro kk
      have hall : ((List.map (dsm g.N n) (l.take l.length) ++ l.drop l.length).length : Int) = (l.length : Int) := by simp
      simp only [zM, hall]; rw [xH, yE, zI, yE]; simp
  · rw [if_neg hc]
    apply loop_out
    intro k
    simp only [zM]
    rw [decide_eq_false hc]
    cases decide ((0 : Int) < (l.length : Int))
    · rfl
    · rfl
def gsd (s:Str)(gs:List eY)(n:Int)(l:List gZ):List gZ:=gs.foldl (fun l g=>if g.Track=s then l.map (dsm g.N n) else l) l
theorem gsd_snoc (s:Str)(gs:List eY)(g:eY)(n:Int)(l:List gZ):gsd s (gs++ [g]) n l=if g.Track=s then (gsd s gs n l).map (dsm g.N n) else gsd s gs n l:=by
 unfold gsd; rw [List.foldl_append]; rfl
theorem dsm_map {g n:Int}{l:List gZ}(hg:1≤g)(hN: ∀x ∈ l,-1125899906842624≤x.N∧x.N≤1125899906842624): ∀x ∈ l.map (dsm g n),-1125899906842624≤x.N∧x.N≤1125899906842624:=by
 intro x hx;obtain ⟨y,hy,rfl⟩:=List.mem_map.1 hx;exact aTk hg (hN y hy)
theorem aMa {s : Str} {n : Int} : ∀ {gs : List eY} {l : List gZ}, (∀ g ∈ gs, 1 ≤ g.N) → (∀ x ∈ l, -1125899906842624 ≤ x.N ∧ x.N ≤ 1125899906842624) → (gsd s gs n l).length = l.length ∧ ∀ x ∈ gsd s gs n l, -1125899906842624 ≤ x.N ∧ x.N ≤ 1125899906842624
  | [], l, _, h => ⟨rfl, h⟩
  | g :: gs, l, hg, h => by
    have hr : ∀ g ∈ gs, 1 ≤ g.N := fun x hx => hg x (List.mem_cons_of_mem _ hx)
    show (gsd s gs n (if g.Track = s then l.map (dsm g.N n) else l)).length = _ ∧ ∀ x ∈ gsd s gs n (if g.Track = s then l.map (dsm g.N n) else l), _
    split
    · have q := aMa (s := s) (n := n) hr (dsm_map (n := n) (hg g List.mem_cons_self) h)
      rw [List.length_map] at q
      exact q
    · exact aMa hr h
theorem disL3 {m : Mask} (gm : Gm m) {t : Track} {n : Int} (hn : 0 ≤ n ∧ n ≤ 1099511627776) {l : List gZ} (hl : l.length ≤ 20000) (hN : ∀ x ∈ l, -1125899906842624 ≤ x.N ∧ x.N ≤ 1125899906842624) :
    Ffs m n t (0, l) = some (gsd t.Name m.Grains n l) := by
 unfold Ffs;have hm := gm.many;refine bI (fun (i : Nat) => ((i : Int), gsd t.Name (m.Grains.take i) n l)) m.Grains (some (gsd t.Name m.Grains n l)) (by omega) ?_ ?_;intro kk i x hx hi;have ht : m.Grains.take (i + 1) = m.Grains.take i ++ [x] := by rw [List.take_add_one, hx]; rfl
 have hg := gm.gr x (List.mem_of_getElem? hx);obtain ⟨r1, r2⟩ := aMa (s := t.Name) (n := n) (gs := m.Grains.take i) (fun g hg => (gm.gr g (List.mem_of_mem_take hg)).1) hN;simp only [zM];rw [xE hi, yF, xQ hx, zI, eH hi (by omega), ht, gsd_snoc, disL4 hg hn (by omega) r2, zI];intro kk; simp only [zM, List.take_length]; rw [xH, yE]
theorem disL2 {m : Mask} (hh : m.Hide.length ≤ 9223372036854775807) (t : Track) (n : Int) (l : List gZ) :
    Ffi m n t (0, l, t.Long) = some (if hid m t.Name = true then ([], n) else (l, t.Long)) := by
 unfold Ffi;have q : ∀ (a : Bool), (if a = true then (([] : List gZ), n) else (l, t.Long)) = ((if a = true then ([] : List gZ) else l), (if a = true then n else t.Long)) := by intro a; cases a <;> rfl
 refine bI (fun (i : Nat) => ((i : Int), (if ((m.Hide.take i).any fun y => decide (t.Name = y)) = true then ([] : List gZ) else l), (if ((m.Hide.take i).any fun y => decide (t.Name = y)) = true then n else t.Long))) m.Hide _ hh ?_ ?_;intro kk i x hx hi;have ht : m.Hide.take (i + 1) = m.Hide.take i ++ [x] := by rw [List.take_add_one, hx]; rfl
 have hi2 : i < 9223372036854775807 := by omega
 simp only [zM];rw [xE hi, yF, xQ hx, zI, eH hi hh, ht, List.any_append];by_cases c : x = t.Name;subst c;simp [gU];rfl;rw [decide_eq_false c, yE, zI];have : decide (t.Name = x) = false := decide_eq_false fun e => c e.symm;simp [this];intro kk; simp only [zM, List.take_length]; rw [xH, yE, q]; rfl
def dtk (m:Mask)(n:Int)(t:Track):Track:=
  ⟨t.Name,⟨t.Series.Den,gsd t.Name m.Grains n (if hid m t.Name=true then [] else t.Series.Samples)⟩,if hid m t.Name=true then n else t.Long⟩
theorem disL1 {m : Mask} (gm : Gm m) (hh : m.Hide.length ≤ 9223372036854775807) {n : Int} (hn : 0 ≤ n ∧ n ≤ 1099511627776) {l : List Track} (hl : l.length ≤ 1000)
    (hs : ∀ t ∈ l, t.Series.Samples.length ≤ 20000 ∧ ∀ x ∈ t.Series.Samples, -1125899906842624 ≤ x.N ∧ x.N ≤ 1125899906842624) : Few m n (0, l) = some (l.map (dtk m n)) := by
  unfold Few
  refine bI (fun i => ((i : Int), (l.take i).map (dtk m n) ++ l.drop i)) l (some (l.map (dtk m n))) (by omega) ?_ ?_
  · intro kk i x hx hi
    have hlen : ((l.take i).map (dtk m n)).length = i := by simp; omega
    have hall : (((l.take i).map (dtk m n) ++ l.drop i).length : Int) = (l.length : Int) := by rw [List.length_append, hlen, List.length_drop]; omega
    have hat : at' ((l.take i).map (dtk m n) ++ l.drop i) (i : Int) = some x := by
      rw [aAp, List.getElem?_append_right (by omega), hlen, Nat.sub_self, List.getElem?_drop, Nat.add_zero, hx]
    have hd : l.drop i = x :: l.drop (i + 1) := by rw [List.drop_eq_getElem_cons hi]; congr 1; rw [List.getElem?_eq_getElem hi] at hx; exact Option.some.inj hx
    have ht : l.take (i + 1) = l.take i ++ [x] := by rw [List.take_add_one, hx]; rfl
    have hset : ∀ y, set' ((l.take i).map (dtk m n) ++ l.drop i) (i : Int) y = some ((l.take i).map (dtk m n) ++ y :: l.drop (i + 1)) := by
      intro y
      unfold set'
      rw [if_pos (by rw [hall]; omega), Int.toNat_natCast, hd, List.set_append_right _ _ (by omega), hlen, Nat.sub_self]; rfl
    obtain ⟨h1, h2⟩ := hs x (List.mem_of_getElem? hx)
    have happ : app' 24 ([] : List gZ) x.Series.Samples = some x.Series.Samples := by
      unfold app'
      rw [if_pos]
      · rfl
      · constructor
        · simp [maxLen]; omega
        · simp; omega
    simp only [zM, hall]
    rw [xE hi, yF, hat]
    simp only [zI]
    rw [happ, zI, disL2 hh x n, eH hi (by omega), ht, List.map_append, List.append_assoc]
    cases e : hid m x.Name
    · simp only [Bool.false_eq_true, if_false, zI]
      rw [disL3 gm hn h1 h2]
      simp only [zI, hset]
      show _ = kk (_, _ ++ dtk m n x :: _)
      unfold dtk; rw [e]; rfl
    · simp only [if_true, zI]
      rw [disL3 gm hn (by simp) (by simp)]
      simp only [zI, hset]
      show _ = kk (_, _ ++ dtk m n x :: _)
      unfold dtk; rw [e]; rfl
  · intro kk
    have hall : ((List.map (dtk m n) (l.take l.length) ++ l.drop l.length).length : Int) = (l.length : Int) := by simp
    simp only [zM, hall]; rw [xH]; simp [gU]
end Go.Lf
namespace Go.Lf
open Go.OB
theorem ser_nil {d:Int}{l:List gZ}(h:nD ⟨d,l⟩=0):nD ⟨d,[]⟩=0:=by
 rw [wP] at h ⊢;refine ⟨h.1,Nat.zero_le _,?_⟩;intro i x hx; simp at hx
theorem ser_dsm {d : Int} {l : List gZ} {g n : Int} (hg : 1 ≤ g) (h : nD ⟨d, l⟩ = 0) : nD ⟨d, l.map (dsm g n)⟩ = 0 := by
 rw [wP] at h ⊢;obtain ⟨h1, h2, h3⟩ := h;refine ⟨h1, by simpa using h2, ?_⟩;intro i x hx;simp only [List.getElem?_map, Option.map_eq_some_iff] at hx;obtain ⟨y, hy, rfl⟩ := hx;have := (sW _ _ _).1 (h3 i y hy);obtain ⟨q1, q2, q3, q4, q5⟩ := this;obtain ⟨c1, c2⟩ := aRn g n y;rw [sW, c1, c2];have r := aTk (n := n) hg q2;refine ⟨q1, r, q3, ?_, ?_⟩;by_cases c : 2 ≤ y.Mark;exact .inr c;have e : dsm g n y = y := if_pos (show y.Mark < 2 by omega);rw [e]; exact q4;intro j z hj hz;simp only [List.getElem?_map, Option.map_eq_some_iff] at hz;obtain ⟨z', hz', rfl⟩ := hz;rw [(aRn g n z').1];exact q5 j z' hj hz'
theorem aTo {d:Int}{s:Str}{n:Int}: ∀(gs:List eY) (l:List gZ),(∀g ∈ gs,1≤g.N)→nD ⟨d,l⟩=0→nD ⟨d,gsd s gs n l⟩=0
  | [],_,_,h=>h
  | g :: gs,l,hg,h=>by
    show nD ⟨d,gsd s gs n (if g.Track=s then l.map (dsm g.N n) else l)⟩=0
    refine aTo gs _ (fun x hx=>hg x (List.mem_cons_of_mem _ hx)) ?_
    split
    · exact ser_dsm (hg g List.mem_cons_self) h
    · exact h
theorem aNs (s:Str)(n:Int): ∀(gs:List eY) (l:List gZ),(∀g ∈ gs,g.Track≠s)→gsd s gs n l=l
  | [],_,_=>rfl
  | g :: gs,l,h=>by
    unfold gsd
    rw [List.foldl_cons,if_neg (h g List.mem_cons_self)]
    exact aNs s n gs l fun x hx=>h x (List.mem_cons_of_mem _ hx)
theorem aUo (s : Str) (n : Int) : ∀ (gs : List eY) (l : List gZ), gs.Pairwise (fun a b => a.Track ≠ b.Track) → (∀ g ∈ gs, 1 ≤ g.N) → grs s gs (gsd s gs n l) = grs s gs l
  | [], _, _, _ => rfl
  | g :: gs, l, hp, hg => by
    rw [List.pairwise_cons] at hp
    have hr : ∀ g ∈ gs, 1 ≤ g.N := fun x hx => hg x (List.mem_cons_of_mem _ hx)
    by_cases c : g.Track = s
    · have hn : ∀ x ∈ gs, x.Track ≠ s := fun x hx e => hp.1 x hx (c.trans e.symm)
      have q : ∀ k, grs s (g :: gs) k = k.map (cs g.N) := fun k => by
        show grs s gs (if g.Track = s then k.map (cs g.N) else k) = _
        rw [if_pos c]; exact aNy s gs _ hn
      have q2 : gsd s (g :: gs) n l = l.map (dsm g.N n) := by
        show gsd s gs n (if g.Track = s then l.map (dsm g.N n) else l) = _
        rw [if_pos c]; exact aNs s n gs _ hn
      rw [q, q, q2, List.map_map]
      apply List.map_congr_left
      intro x hx
      exact cs_dsm (hg g List.mem_cons_self)
    · have q : ∀ k, grs s (g :: gs) k = grs s gs k := fun k => by
        show grs s gs (if g.Track = s then k.map (cs g.N) else k) = _
        rw [if_neg c]
      have q2 : gsd s (g :: gs) n l = gsd s gs n l := by
        show gsd s gs n (if g.Track = s then l.map (dsm g.N n) else l) = _
        rw [if_neg c]
      rw [q, q, q2]
      exact aUo s n gs l hp.2 hr
theorem aSl {m : Mask} (g : aSo m) (n : Int) : ∀ (l : List Track), mts m (l.map (dtk m n)) = mts m l
  | [] => rfl
  | t :: l => by
    have ih := aSl g n l
    rw [List.map_cons, aPj, aPj, ih]
    show (if hid m t.Name = true then _ else _) = _
    cases e : hid m t.Name
    · simp only [Bool.false_eq_true, if_false]
      congr 1
      unfold mtk dtk
      rw [e]
      simp only [Bool.false_eq_true, if_false]
      rw [aUo _ _ _ _ g.pw fun x hx => (g.gr x hx).1]
    · simp only [if_true]
theorem trk_dtk {m : Mask} (g : Gm m) {n : Int} (hn : 0 ≤ n ∧ n ≤ 1099511627776) {l : List Track} (h : aDi l = 0) : aDi (l.map (dtk m n)) = 0 := by
 have hp := aNx h;rw [wZ] at h ⊢;refine ⟨by rw [List.length_map]; exact h.1, ?_⟩;intro i x hx;simp only [List.getElem?_map, Option.map_eq_some_iff] at hx;obtain ⟨u, hu, rfl⟩ := hx;obtain ⟨q1, q2, q3, q4⟩ := (pJ l i u).1 (h.2 i u hu);rw [pJ];refine ⟨q1, ?_, ?_, ?_⟩;rw [Bool.eq_false_iff] at q2 ⊢;intro ht;obtain ⟨k, z, h1, h2⟩ := (qP _ _ _).1 ht;rw [← List.map_take] at h1;simp only [List.getElem?_map, Option.map_eq_some_iff] at h1;obtain ⟨z', hz, rfl⟩ := h1;exact q2 ((qP _ _ _).2 ⟨k, z', hz, h2⟩);refine aTo _ _ (fun x hx => (g.gr x hx).1) ?_;split;exact ser_nil q3;exact q3;show 0 ≤ (if hid m u.Name = true then n else u.Long) ∧ (if hid m u.Name = true then n else u.Long) ≤ _;split;exact hn;exact q4
def aLa (m:Mask)(n d:Int):Int:=if 1<m.Days∧d.tdiv m.Days * m.Days+m.Days - 1≤1000000 then d.tdiv m.Days * m.Days+(n+d) % m.Days else d
def dfl (m:Mask)(n:Int)(f:Flight):Flight:=⟨if m.Tails=true then [111,116,104,101,114] else f.Tail,f.Route,aLa m n f.Day,f.From,f.To,f.Tracks.map (dtk m n)⟩
theorem aHo {m : Mask} (g : Gm m) {n d : Int} (hd : 0 ≤ d ∧ d ≤ 1000000) : (0 ≤ aLa m n d ∧ aLa m n d ≤ 1000000) ∧ aLa m n d - (aLa m n d).tmod m.Days = d - d.tmod m.Days := by
  have g1 := g.days
  have h1 := Int.emod_nonneg (n + d) (b := m.Days) (by omega)
  have h2 := Int.emod_lt_of_pos (n + d) (b := m.Days) (by omega)
  have e := Int.mul_tdiv_add_tmod d m.Days
  have e1 := Int.tmod_nonneg m.Days hd.1
  have e2 := Int.mul_nonneg (show 0 ≤ m.Days by omega) (Int.tdiv_nonneg hd.1 (show 0 ≤ m.Days by omega))
  have e3 : d.tdiv m.Days * m.Days = m.Days * d.tdiv m.Days := Int.mul_comm _ _
  unfold aLa
  split
  · refine ⟨⟨by omega, by omega⟩, ?_⟩
    have : (d.tdiv m.Days * m.Days + (n + d) % m.Days).tmod m.Days = (n + d) % m.Days := by
      rw [Int.tmod_eq_emod_of_nonneg (by omega), e3, show m.Days * d.tdiv m.Days + (n + d) % m.Days = (n + d) % m.Days + m.Days * d.tdiv m.Days by omega, Int.add_mul_emod_self_left, Int.emod_emod_of_dvd _ (Int.dvd_refl _)]
    rw [this]; omega
  · exact ⟨hd, rfl⟩
theorem dis_eq {m:Mask}(g:Gm m)(hh:m.Hide.length≤9223372036854775807){n:Int}(hn:0≤n∧n≤1099511627776){f:Flight}(h:Good f):Fdp f m n=some (dfl m n f):=by
 have g1:=g.days;have hd:=h.day;have h1:=Int.emod_nonneg (n+f.Day) (b:=m.Days) (by omega);have h2:=Int.emod_lt_of_pos (n+f.Day) (b:=m.Days) (by omega);have e:=Int.mul_tdiv_add_tmod f.Day m.Days;have e1:=Int.tmod_nonneg m.Days hd.1;have e2:=Int.mul_nonneg (show 0≤m.Days by omega) (Int.tdiv_nonneg hd.1 (show 0≤m.Days by omega));have e3:f.Day.tdiv m.Days * m.Days=m.Days * f.Day.tdiv m.Days:=Int.mul_comm _ _;have e4:=Int.tdiv_nonneg hd.1 (show 0≤m.Days by omega);have e5:f.Day.tdiv m.Days≤f.Day:=Int.tdiv_le_self _ hd.1;have ha:app' 56 ([]:List Track) f.Tracks=some f.Tracks:=ap56 [] f.Tracks (by have:=h.many; simp; omega);have q1:aAe .i64 f.Day m.Days=some (f.Day.tdiv m.Days):=by unfold aAe; rw [if_neg (by omega),Go.OB.wrap_i64 (by omega) (by omega)]
 have q2:mW (n+f.Day) m.Days=some ((n+f.Day) % m.Days):=by unfold mW; rw [if_neg (by omega),Int.tmod_eq_emod_of_nonneg (by omega)]
 have w1:IntKind.i64.wrap (f.Day.tdiv m.Days * m.Days)=f.Day.tdiv m.Days * m.Days:=Go.OB.wrap_i64 (by omega) (by omega);have w2:IntKind.i64.wrap (f.Day.tdiv m.Days * m.Days+m.Days)=f.Day.tdiv m.Days * m.Days+m.Days:=Go.OB.wrap_i64 (by omega) (by omega);have w3:IntKind.i64.wrap (f.Day.tdiv m.Days * m.Days+m.Days - 1)=f.Day.tdiv m.Days * m.Days+m.Days - 1:=Go.OB.wrap_i64 (by omega) (by omega);have w4:IntKind.i64.wrap (n+f.Day)=n+f.Day:=Go.OB.wrap_i64 (by omega) (by omega);have w5:IntKind.i64.wrap (f.Day.tdiv m.Days * m.Days+(n+f.Day) % m.Days)=f.Day.tdiv m.Days * m.Days+(n+f.Day) % m.Days:=Go.OB.wrap_i64 (by omega) (by omega);unfold Fdp;have q3:=disL1 g hh hn (l:=f.Tracks) (by have:=h.many; omega) (fun t ht=>aDu h.trk ht);simp only [zM,q1,zI,w1,w2,w3,w4,q2,w5,ha,q3];unfold dfl aLa;cases m.Tails<;>by_cases c:1<m.Days<;>by_cases d:f.Day.tdiv m.Days * m.Days+m.Days - 1≤1000000<;>simp [gU,c,d,zI]
theorem dis_good {m:Mask}(g:Gm m){n:Int}(hn:0≤n∧n≤1099511627776){f:Flight}(h:Good f):Good (dfl m n f):=by
 refine ⟨?_,h.route,(aHo g h.day).1,h.frm,h.span,by show (f.Tracks.map _).length≤_; rw [List.length_map]; exact h.many,trk_dtk g hn h.trk⟩;show (if m.Tails=true then [111,116,104,101,114] else f.Tail)= []∨kQ (if m.Tails=true then [111,116,104,101,114] else f.Tail)=true;split;exact .inr (by decide+kernel);exact h.tail
theorem dis_mfl {m:Mask}(g:aSo m){n:Int}{f:Flight}(h:Good f):mfl m (dfl m n f)=mfl m f:=by
 unfold mfl;show Flight.mk (if m.Tails=true then [] else if m.Tails=true then _ else f.Tail) f.Route (aLa m n f.Day - (aLa m n f.Day).tmod m.Days) f.From f.To (mts m (f.Tracks.map (dtk m n)))=_;rw [aSl g,(aHo g.toGm h.day).2];cases m.Tails<;>rfl
theorem smp_ok {x:gZ}{l:List gZ}{i:Nat}(h:aGg l i x=0):aBk x:=by
 obtain ⟨q1,q2,q3,_⟩:=(sW _ _ _).1 h;exact ⟨by unfold i64; omega,by unfold i64; omega,by unfold i64; omega⟩
theorem nm_ok {s:Str}(h:kQ s=true):okS s:=by have:=qK h; unfold okS; omega
theorem good_ok {f : Flight} (g : Good f) : bJ f := by
  have d := g.day; have fr := g.frm; have mn := g.many
  refine ⟨?_, nm_ok g.route, by unfold i64; omega, by unfold i64; omega, by unfold i64; omega, by omega, ?_⟩
  · rcases g.tail with h | h
    · rw [h]; exact Nat.zero_le _
    · exact nm_ok h
  · intro t ht
    obtain ⟨i, hi⟩ := List.getElem?_of_mem ht
    obtain ⟨q1, q2, q3, q4⟩ := (pJ _ i t).1 (((wZ _).1 g.trk).2 i t hi)
    obtain ⟨s1, s2, s3⟩ := (wP t.Series).1 q3
    refine ⟨nm_ok q1, ⟨by unfold i64; omega, by omega, ?_⟩, by unfold i64; omega⟩
    intro x hx
    obtain ⟨j, hj⟩ := List.getElem?_of_mem hx
    exact smp_ok (s3 j x hj)
end Go.Lf
namespace Go.Lf
open Go.OB
theorem least_of {m : Mask} (h : aAu m = some 0) : 1 ≤ m.Least := by
 unfold aAu at h;split at h;cases h;split at h;cases h;have h2 := (tK _ _ _ _ h).2;unfold aLu at h2;split at h2;cases h2;have h4 := (tK _ _ _ _ h2).2;unfold aPm at h4;split at h4;cases h4;rename_i h5;simp only [Bool.not_eq_true', Bool.and_eq_false_iff, decide_eq_false_iff_not] at h5;omega
theorem peak_tot {f : Flight} (g : Good f) (s : Str) : ∃ n b, Fcp f s = some (n, b) ∧ (b = true → ∃ t, Fa7 f s = some (some t)) := by
  have e := aGi f s (by have := g.many; omega)
  unfold Fcp
  rw [e, zI]
  cases hf : f.Tracks.find? fun t => decide (t.Name = s) with
  | none => exact ⟨0, false, rfl, fun h => by cases h⟩
  | some t =>
    have hl := (aDu g.trk (List.mem_of_find?_eq_some hf)).1
    obtain ⟨⟨n, b⟩, h1, -⟩ : ∃ r : Int × Bool, Ffo f t (t.Series.Samples.length : Int) (0, false, 0) = some r ∧ True := by
      unfold Ffo
      refine dS (fun (i : Nat) (s : Int × Bool) => (s.1, s.2, (i : Int))) t.Series.Samples (fun _ _ => True) (fun _ => True) (by omega) ?_ ?_ (0, false) trivial
      · intro kk i s x hx hi _
        simp only [zM, pY]
        rw [xE hi, yF, xQ hx]
        simp only [zI]
        rw [eH hi (by omega)]
        generalize decide (x.Mark < 3) = c1
        generalize (decide (IntKind.i64.wrap (64 * f.From) ≤ x.At) && decide (x.At ≤ IntKind.i64.wrap (IntKind.i64.wrap (IntKind.i64.wrap (64 * f.To) + 64) - 1))) = c2
        generalize decide (s.1 < x.N) = c3
        obtain ⟨a, b⟩ := s
        cases c1 <;> cases c2 <;> cases c3 <;> cases b <;> exact ⟨(_, _), trivial, rfl⟩
      · intro kk s _
        simp only [zM]
        rw [xH, yE]
        exact ⟨_, rfl, trivial⟩
    refine ⟨n, b, ?_, fun _ => ⟨t, rfl⟩⟩
    simp only [zM, Option.isNone_some, yE, zI]
    rw [h1, zI]
theorem a8 (p q:List Int)(h:p.length+q.length≤1000):app' 8 p q=some (p++q):=appN 8 p q h (by decide)
theorem peaks_L3 {l : List Flight} {m : Mask} (gm : Gm m) (hm : mD m) (hl : l.length ≤ 300) (hg : ∀ f ∈ l, Good f) (s : Str) (a : Int) (b : Bool) :
    ∃ r : Int × Bool × List Int × List Int, Fbo m s l (l.length : Int) (a, b, 0, [], []) = some r ∧ (r.2.2.1.length = r.2.2.2.length ∧ r.2.2.1.length ≤ 300) := by
  unfold Fbo
  refine dS (fun (i : Nat) (s : Int × Bool × List Int × List Int) => (s.1, s.2.1, (i : Int), s.2.2.1, s.2.2.2)) l (fun i s => s.2.2.1.length = s.2.2.2.length ∧ s.2.2.1.length ≤ i) _ (by omega) ?_ ?_ (a, b, [], []) ⟨rfl, Nat.le_refl _⟩
  · intro kk i st x hx hi hI
    obtain ⟨z1, z2, z3, z4⟩ := st
    have gx := hg x (List.mem_of_getElem? hx)
    have gq := aCw gm gx
    obtain ⟨n, bb, h1, h2⟩ := peak_tot gq s
    obtain ⟨hI1, hI2⟩ := hI
    dsimp only at hI1 hI2
    simp only [zM]
    rw [xE hi, yF, xQ hx, zI, tJ x m gm (aHb gx) hm.2.2.1.1, zI, h1, zI, eH hi (by omega)]
    cases bb with
    | false => exact ⟨(z1, z2, z3, z4), ⟨hI1, by dsimp only; omega⟩, rfl⟩
    | true =>
      obtain ⟨t, ht⟩ := h2 rfl
      have a1 := a8 z3 [n] (by simp; omega)
      have a2 := a8 z4 [(i : Int)] (by simp; omega)
      obtain ⟨q, hq⟩ : ∃ q, gU z2 (some true) (gU (decide (z1 ≠ 0)) (some (decide (t.Series.Den ≠ z1))) (some false)) = some q := by
        cases z2
        · cases decide (z1 ≠ 0) <;> exact ⟨_, rfl⟩
        · exact ⟨_, rfl⟩
      refine ⟨(t.Series.Den, q, z3 ++ [n], z4 ++ [(i : Int)]), ⟨by simp [hI1], by simp; omega⟩, ?_⟩
      simp only [Bool.not_true, yE]
      rw [ht, zI, zI, hq, zI, a1, zI, a2, zI, zI]
  · intro kk st hI
    simp only [zM]
    rw [xH, yE]
    obtain ⟨z1, z2, z3, z4⟩ := st
    obtain ⟨hI1, hI2⟩ := hI
    dsimp only at hI1 hI2
    exact ⟨_, rfl, hI1, by dsimp only; omega⟩
theorem contP_eq (l : List fO) (m : Mask) (hl : l.length ≤ 9223372036854775807) : Fcz l m = some (bV (fun _ y => decide ((y.l.length : Int) < m.Least)) l 0) := by
  obtain ⟨n, h1, h2⟩ := aBi (fun (_ : Nat) (y : fO) => decide ((y.l.length : Int) < m.Least)) l 0
  have e : Fdk l m = some n := by
    unfold Fdk
    simp only [zM, xX]
    unfold Fgi
    rw [← h1]
    refine xU l _ _ hl ?_ ?_
    · intro kk i x hx hi
      unfold Ffh
      simp only [zM, zI]
      rw [xE hi, yF, xQ hx, zI, eH hi hl]
      cases decide ((x.l.length : Int) < m.Least) <;> rfl
    · intro kk; simp only [zM]; rw [xH]; rfl
  unfold Fcz
  rw [e]
  simp only [zM, zI, h2]
structure PkOk (p:fO):Prop where
  lo:1≤p.l.length
  hi:p.l.length≤300
  fl:p.flights.length=p.l.length
theorem aEf {l : List Flight} {m : Mask} {s : Str} (h : okL bJ l) (hm : mD m) (hs : okS s) : ∃ r e, Fam [l] m s = some (r, e) ∧ (e = 0 → ∃ p, r = [p] ∧ PkOk p) := by
  obtain ⟨c, hc⟩ := aBs l
  obtain ⟨cm, hcm⟩ := tV m
  unfold Fam
  rw [xX]
  simp only [zM]
  have q : ∀ k, Fa3 [l] k (([l] : List (List Flight)).length : Int) 0 = if c ≠ 0 then some ([], c) else k () := by
    intro k
    have e : Fa3 [l] k (([l] : List (List Flight)).length : Int) 0 = dC (fun _ x => if lfF x = some 0 then none else some (gG (lfF x) fun c => some (([] : List fO), c))) (k ()) [l] 0 := by
      unfold Fa3
      refine xU [l] _ (k ()) (by simp) ?_ ?_
      · intro kk i x hx hi
        have hox : x = l := by
          have := List.mem_of_getElem? hx
          simpa using this
        subst hox
        simp only [zM]
        rw [xE hi, yF, xQ hx, zI, aG x h, hc, zI, eH hi (by simp)]
        by_cases c0 : c = 0
        · subst c0; simp [yE]
        · rw [decide_eq_true c0, yF]; simp [c0, zI]
      · intro kk; simp only [zM]; rw [xH]; rfl
    rw [e, dC, dC, hc]
    by_cases c1 : c = 0
    · subst c1; simp
    · simp [c1, zI]
  rw [q, qE m hm, hcm, sJ s hs]
  simp only [zI]
  by_cases c1 : c = 0
  · rw [if_neg (fun h => h c1)]
    by_cases c2 : cm = 0
    · rw [decide_eq_false (fun h => h c2), yE]
      cases kQ s
      · exact ⟨_, _, rfl, fun h => by cases h⟩
      · subst c1; subst c2
        obtain ⟨h1, h2⟩ := aHl hc
        have hg : ∀ f ∈ l, Good f := fun f hf => aCv (h2 f hf)
        have gm := (aCa hcm).toGm
        obtain ⟨⟨rows, mx⟩, e2, p, hp, p1, p2⟩ : ∃ r : List fO × Bool, Fbl [l] m s (([l] : List (List Flight)).length : Int) ([], 0, false, 0) = some r ∧ ∃ p : fO, r.1 = [p] ∧ p.flights.length = p.l.length ∧ p.l.length ≤ 300 := by
          unfold Fbl
          refine dS (fun (i : Nat) (b : List fO × Int × Bool) => (b.1, b.2.1, b.2.2, (i : Int))) [l] (fun i b => (i = 0 → b.1 = []) ∧ (i = 1 → ∃ p : fO, b.1 = [p] ∧ p.flights.length = p.l.length ∧ p.l.length ≤ 300)) _ (by simp) ?_ ?_ ([], 0, false) ⟨(fun _ => rfl), (fun h => by simp at h)⟩
          · intro kk i b x hx hi hI
            have hi0 : i = 0 := by simp at hi; exact hi
            subst hi0
            have hxl : x = l := by simpa using hx.symm
            subst hxl
            obtain ⟨b1, b2, b3⟩ := b
            have hb : b1 = [] := hI.1 rfl
            subst hb
            obtain ⟨⟨r1, r2, r3, r4⟩, e3, q1, q2⟩ := peaks_L3 gm hm h1 hg s b2 b3
            refine ⟨([fO.mk r3 r4 0], r1, r2), ⟨(fun h => by simp at h), (fun _ => ⟨_, rfl, q1.symm, q2⟩)⟩, ?_⟩
            simp only [zM]
            rw [xE hi, yF, xQ hx, zI, e3, zI, eH hi (by simp), ap56 _ _ (by simp), zI, zI]
            rfl
          · intro kk b hI
            simp only [zM]
            rw [xH, yE]
            exact ⟨_, rfl, hI.2 rfl⟩
        dsimp only at hp
        subst hp
        simp only [Bool.not_true, yE]
        rw [e2, zI]
        simp only []
        rw [contP_eq _ _ (by simp), zI]
        have hlm := least_of hcm
        simp only [bV, Bool.or_false]
        by_cases c3 : ((p.l.length : Nat) : Int) < m.Least
        · rw [decide_eq_true c3]; exact ⟨_, _, rfl, fun h => by cases h⟩
        · rw [decide_eq_false c3, yE]
          cases mx
          · exact ⟨_, _, rfl, fun _ => ⟨p, rfl, by omega, p2, p1⟩⟩
          · exact ⟨_, _, rfl, fun h => by cases h⟩
    · rw [decide_eq_true c2, yF]; exact ⟨_, _, rfl, fun h => absurd h c2⟩
  · rw [if_pos c1]; exact ⟨_, _, rfl, fun h => absurd h c1⟩
theorem iclone_eq (l:List Int)(h:l.length≤1000):Fdj l=some l:=by
 have e:app' 8 ([]:List Int) l=some l:=a8 [] l (by simp; omega);unfold Fdj aRf;rw [e];simp only [zI,yF,yE];cases l<;>simp
theorem aEg {l:List Int}{n d:Int}(hl:l.length≤300)(h1:1≤l.length)(hd:1≤d∧d≤1000000)(hn:0≤n∧n≤d): ∃x,Fbg l n d=some x:=by
  have hp0:0≤n * (l.length:Int):=Int.mul_nonneg hn.1 (by omega)
  have hp1:n * (l.length:Int)≤d * (l.length:Int):=Int.mul_le_mul_of_nonneg_right hn.2 (by omega)
  have hp2:d * (l.length:Int)≤1000000 * (l.length:Int):=Int.mul_le_mul_of_nonneg_right hd.2 (by omega)
  generalize hP:n * (l.length:Int)=P at hp0 hp1 hp2
  have hs:=aUj l
  have hX:Fdc l=some (srt l):=by unfold Fdc; rw [if_pos (by omega)]
  have w1:IntKind.i64.wrap P=P:=Go.OB.wrap_i64 (by omega) (by omega)
  have w2:IntKind.i64.wrap (P+d)=P+d:=Go.OB.wrap_i64 (by omega) (by omega)
  have w3:IntKind.i64.wrap (P+d - 1)=P+d - 1:=Go.OB.wrap_i64 (by omega) (by omega)
  have hq0:0≤(P+d - 1) / d:=Int.ediv_nonneg (by omega) (by omega)
  have hq1:(P+d - 1) / d≤(l.length:Int):=by
    have:(P+d - 1) / d<(l.length:Int)+1:=Int.ediv_lt_of_lt_mul (by omega) (by rw [Int.add_mul,Int.mul_comm (l.length:Int) d]; omega)
    omega
  have hq:aAe .i64 (P+d - 1) d=some ((P+d - 1) / d):=by
    unfold aAe
    rw [if_neg (by omega),Int.tdiv_eq_ediv_of_nonneg (by omega),Go.OB.wrap_i64 (by omega) (by omega)]
  generalize (P+d - 1) / d=k at hq0 hq1 hq
  have w4:IntKind.i64.wrap (max k 1 - 1)=max k 1 - 1:=Go.OB.wrap_i64 (by omega) (by omega)
  obtain ⟨i,hi⟩: ∃i:Nat,max k 1 - 1=(i:Int):=⟨(max k 1 - 1).toNat,by omega⟩
  have hil:i<(srt l).length:=by omega
  refine ⟨(srt l)[i],?_⟩
  unfold Fbg
  rw [iclone_eq l (by omega),zI,hX,zI]
  simp only [zM]
  rw [hs,hP,w1,w2,w3,hq,zI,w4,hi,xQ (List.getElem?_eq_getElem hil),zI]
theorem aKu {l : List Flight} {m : Mask} {s : Str} (h : okL bJ l) (hm : mD m) (hs : okS s) : ∃ r : Int × Int, Fap l m s 1 2 = some r := by
 obtain ⟨r, e, h1, h2⟩ := aEf h hm hs;unfold Fap;simp only [zM];rw [h1, zI];by_cases c : e = 0;obtain ⟨p, rfl, pk⟩ := h2 c;obtain ⟨x, hx⟩ := aEg (n := 1) (d := 2) pk.hi pk.lo (by omega) (by omega);have a0 : at' [p] 0 = some p := rfl;dsimp only;rw [decide_eq_false (fun h => h c), yE];simp only [pY, zI, Int.reduceLE, decide_true, Bool.and_self, Bool.not_true, yE];rw [a0, zI, hx];exact ⟨_, rfl⟩;dsimp only;rw [decide_eq_true c]; exact ⟨_, rfl⟩
theorem Odd1_tot {mid : Int} {p : fO} (hl : p.l.length ≤ 300) : ∃ r : List Int, Fem mid p (p.l.length : Int) ([], 0) = some r ∧ r.length = p.l.length := by
 unfold Fem;refine dS (fun (i : Nat) (b : List Int) => (b, (i : Int))) p.l (fun i b => b.length = i) (fun (r : List Int) => r.length = p.l.length) (by omega) ?_ ?_ [] rfl;intro kk i b x hx hi hI;subst hI;refine ⟨b ++ [max (IntKind.i64.wrap (x - mid)) (IntKind.i64.wrap (mid - x))], by simp, ?_⟩;simp only [zM];rw [xE hi, yF, xQ hx, zI, a8 _ _ (by simp; omega), zI, eH hi (by omega)];intro kk b hI;simp only [zM];rw [xH, yE];exact ⟨_, rfl, hI⟩
theorem Odd2_tot {most : Int} {ds : List Int} {p : fO} (hl : ds.length ≤ 300) (hw : p.flights.length = ds.length) : ∃ r : List Int, Ffp [p] ds most (ds.length : Int) ([], 0) = some r ∧ r.length ≤ 300 := by
 unfold Ffp;refine dS (fun (i : Nat) (b : List Int) => (b, (i : Int))) ds (fun i b => b.length ≤ i) (fun (r : List Int) => r.length ≤ 300) (by omega) ?_ ?_ [] (Nat.le_refl _);intro kk i b d hd hi hI;obtain ⟨x, hx⟩ : ∃ x, p.flights[i]? = some x := ⟨_, List.getElem?_eq_getElem (by omega)⟩;have a0 : at' [p] 0 = some p := rfl;simp only [zM];rw [xE hi, yF, xQ hd, zI, a0, zI, xQ hx, zI, eH hi (by omega)];cases decide (most < d);exact ⟨b, by omega, rfl⟩;refine ⟨b ++ [x], by simp; omega, ?_⟩;rw [yF, a8 _ _ (by simp; omega)]; rfl;intro kk b hI;simp only [zM];rw [xH, yE];exact ⟨_, rfl, by omega⟩
theorem Odd_tot {l : List Flight} {m : Mask} {s : Str} (h : okL bJ l) (hm : mD m) (hs : okS s) : ∃ r : List Int × Int, Fas l m s 2 = some r ∧ r.1.length ≤ 300 := by
 obtain ⟨r, e, h1, h2⟩ := aEf h hm hs;unfold Fas;simp only [zM];rw [h1, zI];by_cases c : e = 0;obtain ⟨p, rfl, pk⟩ := h2 c;have hh := pk.hi; have hl := pk.lo;obtain ⟨x, hx⟩ := aEg (n := 1) (d := 2) pk.hi pk.lo (by omega) (by omega);obtain ⟨ds, d1, d2⟩ := Odd1_tot (mid := x) pk.hi;obtain ⟨y, hy⟩ := aEg (l := ds) (n := 1) (d := 2) (by omega) (by omega) (by omega) (by omega);obtain ⟨o, o1, o2⟩ := Odd2_tot (most := IntKind.i64.wrap (2 * y)) (ds := ds) (p := p) (by omega) (by rw [pk.fl, d2]);have a0 : at' [p] 0 = some p := rfl;dsimp only;rw [decide_eq_false (fun h => h c), yE];simp only [pY, zI, Int.reduceLE, decide_true, Bool.and_self, Bool.not_true, yE, a0, hx, d1, hy, o1];exact ⟨_, rfl, o2⟩;dsimp only;rw [decide_eq_true c]; exact ⟨_, rfl, Nat.zero_le _⟩
end Go.Lf
namespace Go.Lf
open Go.OB
theorem w64_rng (n:Int): -9223372036854775808≤IntKind.i64.wrap n∧IntKind.i64.wrap n≤9223372036854775807:=by rw [IntKind.wrap_i64]; omega
def gB:(Int×Int→Option Int)→Int×Int→Option Int:=fun k ⟨g80,g81⟩=>
  gK (decide (g81≠0)) fun x94=>
  gU x94
  (gG (mW g80 g81) fun x99=>
  k (g81,x99))
  (some g80)
theorem gB1:Fgy=fV gB:=rfl
theorem aSz : ∀ (n : Nat) (a b : Int), b.natAbs < n → ∃ g, fK gB n (a, b) = some g ∧ (a ≠ 0 ∨ b ≠ 0 → g ≠ 0)
  | 0, a, b, h => absurd h (by omega)
  | n + 1, a, b, h => by
    rw [fK]
    show ∃ g, gU (decide (b ≠ 0)) (gG (mW a b) fun x => fK gB n (b, x)) (some a) = some g ∧ _
    by_cases c : b = 0
    · subst c
      rw [decide_eq_false (by simp), yE]
      exact ⟨a, rfl, fun h => h.elim id fun h => absurd rfl h⟩
    · rw [decide_eq_true c, yF]
      have e : mW a b = some (a.tmod b) := by unfold mW; rw [if_neg c]
      have hl : (a.tmod b).natAbs < b.natAbs := by rw [Int.natAbs_tmod]; exact Nat.mod_lt _ (by omega)
      obtain ⟨g, h1, h2⟩ := aSz n b (a.tmod b) (by omega)
      rw [e, zI]
      exact ⟨g, h1, fun _ => h2 (.inl c)⟩
theorem aEr (a b:Int)(hb: -9223372036854775808≤b∧b≤9223372036854775807): ∃g,Fb4 a b=some g∧(b≠0→g≠0):=by
 have hF:FU=18446744073709551616:=by unfold FU; rfl
 have hw:IntKind.i64.wrap (-b)=(-b+9223372036854775808) % 18446744073709551616 - 9223372036854775808:=IntKind.wrap_i64 _;obtain ⟨g,h1,h2⟩:=aSz FU (max a (IntKind.i64.wrap (-a))) (max b (IntKind.i64.wrap (-b))) (by rw [hF,hw]; omega);unfold Fb4;simp only [zM,gB1];unfold fV;rw [h1,zI];exact ⟨g,rfl,fun hb0=>h2 (.inr (by rw [hw]; omega))⟩
theorem aBo {a b:Int}(h:b≠0): ∃q,aAe .i64 a b=some q:=by unfold aAe; rw [if_neg h]; exact ⟨_,rfl⟩
theorem mul64_tot (a b:Int): ∃q:Int×Int,Fao a b=some q:=by
 have h: ∀a,rY .u64 a 32=some (a / 2 ^ (32:Int).toNat):=fun a=>by unfold rY; rw [if_pos (by decide)]
 unfold Fao;simp only [zM,h,zI];exact ⟨_,rfl⟩
theorem mixed_tot (a b c : Int) (hc : c ≠ 0) (h : -9223372036854775808 ≤ c ∧ c ≤ 9223372036854775807) : ∃ q : Ratio × Bool, Fcl a b c = some q := by
 obtain ⟨g, g1, g2⟩ := aEr b c h;obtain ⟨x, hx⟩ := aBo (a := b) (g2 hc);obtain ⟨y, hy⟩ := aBo (a := c) (g2 hc);obtain ⟨⟨u, v⟩, hm⟩ := mul64_tot (IntKind.u64.wrap (max a (IntKind.i64.wrap (-a)))) (IntKind.u64.wrap y);unfold Fcl;rw [g1, zI, hx, zI, hy, zI];simp only [zM];rw [hm, zI];simp only [pY, zI];cases decide (0 < u);cases decide (IntKind.u64.wrap (4611686018427387904 + IntKind.u64.wrap (2 * IntKind.u64.wrap y)) < v);cases decide (a < 0) <;> exact ⟨_, rfl⟩;exact ⟨_, rfl⟩;exact ⟨_, rfl⟩
theorem sum_tot {l : List Int} (hl : l.length ≤ 300) : ∃ s, Fd0 l = some s := by
  obtain ⟨s, h, -⟩ : ∃ s : Int, Fer l (l.length : Int) (0, 0) = some s ∧ True := by
    unfold Fer
    refine dS (fun (i : Nat) (b : Int) => (b, (i : Int))) l (fun _ _ => True) (fun _ => True) (by omega) ?_ ?_ 0 trivial
    · intro kk i b x hx hi _
      simp only [zM]
      rw [xE hi, yF, xQ hx, zI, eH hi (by omega)]
      exact ⟨_, trivial, rfl⟩
    · intro kk b _
      simp only [zM]
      rw [xH, yE]
      exact ⟨_, rfl, trivial⟩
  unfold Fd0
  simp only [zM]
  rw [h]; exact ⟨_, rfl⟩
theorem Mean_tot {l : List Flight} {m : Mask} {s : Str} (h : okL bJ l) (hm : mD m) (hs : okS s) : ∃ r : Ratio × Int, Fay l m s = some r := by
 obtain ⟨r, e, h1, h2⟩ := aEf h hm hs;unfold Fay;simp only [zM];rw [h1, zI];by_cases c : e = 0;obtain ⟨p, rfl, pk⟩ := h2 c;have hh := pk.hi; have hl := pk.lo;obtain ⟨x, hx⟩ := sum_tot pk.hi;have a0 : at' [p] 0 = some p := rfl;have hn : (p.l.length : Int) ≠ 0 := by omega
 obtain ⟨q, hq⟩ := aBo (a := x) hn;have hr : mW x (p.l.length : Int) = some (x.tmod p.l.length) := by unfold mW; rw [if_neg hn]
 obtain ⟨⟨u, v⟩, hmx⟩ := mixed_tot q (x.tmod p.l.length) (p.l.length : Int) hn (by omega);dsimp only;rw [decide_eq_false (fun h => h c), yE];simp only [zI, a0, hx, hq, hr, hmx];cases v <;> exact ⟨_, rfl⟩;dsimp only;rw [decide_eq_true c]; exact ⟨_, rfl⟩
theorem rule_ix (l : List kE) (s : Str) (hl : l.length ≤ 9223372036854775807) : ∃ n, Fcy l s = some n ∧ (0 ≤ n → ∃ j : Nat, n = (j : Int) ∧ j < l.length) := by
  obtain ⟨n, h1, h2⟩ := aFe (fun y : kE => decide (y.Name = s)) l 0
  refine ⟨n, ?_, ?_⟩
  · unfold Fcy
    simp only [zM, xX]
    unfold Ff9
    rw [xU l (fun i x => if decide (x.Name = s) = true then some (some (i : Int)) else none) (some (-1)) hl ?_ ?_, h1]
    · intro k i x hx hi
      simp only [zM, Ffu]
      rw [xE hi, yF, xQ hx, zI, zI, eH hi hl]
      cases decide (x.Name = s) <;> rfl
    · intro k
      simp only [zM]; rw [xH]; rfl
  · intro h0
    rcases h2 with ⟨h2, -⟩ | ⟨j, h2, ⟨x, h3, -⟩, -⟩
    · omega
    · exact ⟨j, by omega, (List.getElem?_eq_some_iff.1 h3).1⟩
theorem aQe {l : List Flight} {r : Rules} {m : Mask} (ok : okR r) (h : chk r = some 0) (gm : Gm m) (hh : m.Hide.length ≤ 9223372036854775807) (hl : l.length ≤ 300) (hg : ∀ f ∈ l, Good f) {j : Nat} (hj : j < r.Rules.length) :
    ∃ q : Int × Int × Int × Int, Fbn l r m (j : Int) (l.length : Int) (0, 0, 0, 0, 0) = some q ∧ True := by
 unfold Fbn;refine dS (fun (i : Nat) (s : Int × Int × Int × Int) => (s.1, s.2.1, s.2.2.1, s.2.2.2, (i : Int))) l (fun _ _ => True) (fun _ => True) (by omega) ?_ ?_ (0, 0, 0, 0) trivial;intro kk i st x hx hi _;have gx := hg x (List.mem_of_getElem? hx);obtain ⟨e1, e2, -⟩ := evs_ok ok h (aCw gm gx);have e3 : at' (evs r (mfl m x)) (j : Int) = some ((evs r (mfl m x))[j]'(by omega)) := xQ (List.getElem?_eq_getElem (by omega));simp only [zM];rw [xE hi, yF, xQ hx, zI, tJ x m gm (aHb gx) hh, zI, e1, zI, e3, zI, eH hi (by omega)];exact ⟨(_, _, _, _), trivial, rfl⟩;intro kk st _;simp only [zM];rw [xH, yE];exact ⟨_, rfl, trivial⟩
theorem Trend_tot {l : List Flight} {r : Rules} {m : Mask} {s : Str} (h : okL bJ l) (ok : okR r) (hm : mD m) : ∃ q : Ratio × Int, Faq l r m s = some q := by
 have e1 := kJ (aBs l);have e2 := kJ (aHx r);have e3 := kJ (tV m);unfold Faq;rw [aG l h, aBm r ok, qE m hm];generalize (lfF l).getD 0 = a1 at *;generalize (chk r).getD 0 = a2 at *;generalize (aAu m).getD 0 = a3 at *;rw [e1, e2, e3];simp only [zM, zI];by_cases c1 : a1 = 0;rw [decide_eq_false (fun h => h c1), yE];by_cases c2 : a2 = 0;rw [decide_eq_false (fun h => h c2), yE];by_cases c3 : a3 = 0;rw [decide_eq_false (fun h => h c3), yE];subst c1; subst c2; subst c3;obtain ⟨l1, l2⟩ := aHl e1;have gf : ∀ f ∈ l, Good f := fun f hf => aCv (l2 f hf);have g2 := (aCa e3).toGm;have gr := pF ok e2;obtain ⟨n, n1, n2⟩ := rule_ix r.Rules s (by have := gr.l; omega);rw [n1, zI];by_cases c4 : n < 0;rw [decide_eq_true c4]; exact ⟨_, rfl⟩;rw [decide_eq_false c4, yE, zI];cases decide ((l.length : Int) < m.Least);obtain ⟨j, rfl, hj⟩ := n2 (by omega);obtain ⟨⟨q1, q2, q3, q4⟩, hq, -⟩ := aQe ok e2 g2 hm.2.2.1.1 l1 gf hj;rw [yE, hq, zI];dsimp only;generalize hX : IntKind.i64.wrap (IntKind.i64.wrap ((l.length : Int) * q3) - IntKind.i64.wrap (q1 * q1)) = X;have hr := w64_rng (IntKind.i64.wrap ((l.length : Int) * q3) - IntKind.i64.wrap (q1 * q1));rw [hX] at hr;by_cases c5 : X = 0;rw [decide_eq_true c5]; exact ⟨_, rfl⟩;rw [decide_eq_false c5, yE];obtain ⟨g, g1, g2⟩ := aEr (IntKind.i64.wrap (IntKind.i64.wrap ((l.length : Int) * q4) - IntKind.i64.wrap (q1 * q2))) X hr;obtain ⟨x, hx⟩ := aBo (a := IntKind.i64.wrap (IntKind.i64.wrap ((l.length : Int) * q4) - IntKind.i64.wrap (q1 * q2))) (g2 c5);obtain ⟨y, hy⟩ := aBo (a := X) (g2 c5)
 rw [g1, zI, hx, zI, hy, zI];exact ⟨_, rfl⟩;exact ⟨_, rfl⟩;rw [decide_eq_true c3]; exact ⟨_, rfl⟩;rw [decide_eq_true c2]; exact ⟨_, rfl⟩;rw [decide_eq_true c1]; exact ⟨_, rfl⟩
end Go.Lf
namespace Go.Lf
open Go.OB
def aLl (x:gV):Prop:=x.Key.length≤1048576∧x.Events.length≤1048576
def hdB (p1:Int)(x205:Int):(Int×Int×Int×(List gV)→Option (Int×Int×(List gV)))→Int×Int×Int×(List gV)→Option (Int×Int×(List gV)):=fun k397 ⟨g389,g390,g391,g392⟩=>
  gK (decide (g391<x205)) fun x401=>
  gU x401
  (gG (gG (at' g392 g391) fun x486=>
  gK (decide (x486.Flights<p1)) fun x504=>
  gU x504
  (gK (IntKind.i64.wrap (g389+1)) fun x508=>
  gG (set' g392 g391 (gV.mk x486.Key true 0 [])) fun x516=>
  some (x508,g390,x516))
  (gG (gK (decide (g390<0)) fun x558=>
  gU x558
  (some true)
  (gG (at' g392 g390) fun x566=>
  gK (decide (x486.Flights<x566.Flights)) fun x583=>
  some x583)) fun g552=>
  gU g552
  (some (g389,g391,g392))
  (some (g389,g390,g392)))) fun ⟨g478,g479,g480⟩=>
  gK (IntKind.i64.wrap (g391+1)) fun x591=>
  k397 (g478,g479,x591,g480))
  (some (g389,g390,g392))
theorem hdB_eq (p z:Int):Fds p z=fV (hdB p z):=rfl
theorem aNt {l l' : List gV} {i : Int} {x : gV} (hl : ∀ x ∈ l, aLl x) (hx : at' l i = some x) (h : set' l i (gV.mk x.Key true 0 []) = some l') : ∀ x ∈ l', aLl x := by
  unfold set' at h
  split at h
  · obtain rfl := Option.some.inj h
    intro z hz
    rcases List.mem_or_eq_of_mem_set hz with hz | rfl
    · exact hl z hz
    · exact ⟨(hl x (List.mem_of_getElem? (zL hx).2.2)).1, Nat.zero_le _⟩
  · cases h
theorem hideN (p z : Int) : ∀ (n : Nat) (c f i : Int) (l : List gV) (r : Int × Int × List gV), fK (hdB p z) n (c, f, i, l) = some r → (∀ x ∈ l, aLl x) → ∀ x ∈ r.2.2, aLl x
  | 0, c, f, i, l, r, h, hl => by cases h
  | n + 1, c, f, i, l, r, h, hl => by
    rw [fK] at h
    unfold hdB at h
    simp only [zM] at h
    cases hd : decide (i < z)
    · rw [hd, yE] at h
      obtain rfl := Option.some.inj h
      exact hl
    · rw [hd, yF] at h
      obtain ⟨⟨c', f', l'⟩, h1, h2⟩ := zC h
      refine hideN p z n _ _ _ l' r h2 ?_
      obtain ⟨x, hx, h1⟩ := zC h1
      cases hq : decide (x.Flights < p)
      · rw [hq, yE] at h1
        obtain ⟨g, _, h1⟩ := zC h1
        cases g
        · rw [yE] at h1; cases h1; exact hl
        · rw [yF] at h1; cases h1; exact hl
      · rw [hq, yF] at h1
        obtain ⟨y, hy, h1⟩ := zC h1
        cases h1
        exact aNt hl hx hy
theorem hide_rowS {l out : List gV} {p : Int} (hl : ∀ x ∈ l, aLl x) (h : Fa0 l p = some out) : ∀ x ∈ out, aLl x := by
 unfold Fa0 at h;simp only [zM] at h;obtain ⟨⟨c, f, l'⟩, h1, h2⟩ := zC h;rw [hdB_eq] at h1;unfold fV at h1;have hl' := hideN p _ _ _ _ _ _ _ h1 hl;obtain ⟨g, _, h2⟩ := zC h2;cases g;rw [yE] at h2;obtain rfl := Option.some.inj h2;exact hl';rw [yF] at h2;obtain ⟨x, hx, h2⟩ := zC h2;obtain ⟨y, hy, h2⟩ := zC h2;obtain rfl := Option.some.inj h2;exact aNt hl' hx hy
theorem Table_tot {l : List Flight} {r : Rules} {m : Mask} {b : Int} (h : okL bJ l) (ok : okR r) (hm : mD m) : ∃ (out : List gV) (e : Int), Fae l r m b = some (out, e) ∧ out.length ≤ 300 ∧ ∀ x ∈ out, aLl x := by
 by_cases c : tabE l r m b = 0;obtain ⟨rows, h1, h2, -, h3⟩ := aRb h ok hm c;obtain ⟨out, o1, o2, -, -⟩ := hide_ok (least := m.Least) h2 fun x hx => (h1.t.tr x hx).hi;refine ⟨out, 0, by rw [h3, o1, zI], by omega, hide_rowS (fun x hx => ⟨?_, ?_⟩) o1⟩;obtain ⟨f, hf, e⟩ := h1.ky x hx;have := kyO_len (aCw h1.gm (h1.gf f hf)) b;rw [e]; omega;rw [(h1.t.tr x hx).el]; have := h1.gr.l; omega;exact ⟨[], _, Table_bad h ok hm c, Nat.zero_le _, fun x hx => by cases hx⟩
theorem ink_Row2 (p:gJ)(x:gV){b:Nat}(hx:aLl x)(hp:p.out.length≤b)(h:b≤1000000000000):Gr (Fcc p x) (b+30000000):=by
 have hk:=hx.1; have he:=hx.2;unfold Fcc;refine (ink_Text p x.Key hp (by omega)).bind fun q hq=>?_;refine (ink_Bool q x.Hidden hq (by omega)).bind fun q hq=>?_;refine (wR q x.Flights hq (by omega)).bind fun q hq=>?_;refine (aCe q x.Events hq (by omega)).bind fun q hq=>?_;exact Gr.some (by show q.out.length≤_; omega)
theorem row_next {a b i:Nat}(h:a≤b+30000000)(hb:22+30000000 * i=b):a≤22+30000000 * (i+1):=by rw [Nat.mul_add,Nat.mul_one,← Nat.add_assoc,hb]; exact h
theorem row_last {a n:Nat}(h:a≤22+30000000 * n)(hn:n≤300):a≤10000000000:=by omega
theorem ink_Rows {l : List gV} (hl : l.length ≤ 300) (h : ∀ x ∈ l, aLl x) : Gr (Fby (gJ.mk []) l) 10000000000 := by
  unfold Fby
  simp only [zM]
  refine (wR (b := 0) (gJ.mk []) _ (Nat.le_refl _) (by decide)).bind fun q hq => ?_
  unfold Fgr
  refine dS (fun (i : Nat) (s : List Int) => ((i : Int), s)) l (fun i s => s.length ≤ 22 + 30000000 * i) (fun (r : gJ) => r.out.length ≤ 10000000000) (by omega) ?_ ?_ _ (by simpa using hq)
  · intro kk i s y hy hi hI
    have hI : s.length ≤ 22 + 30000000 * i := hI
    generalize hb : 22 + 30000000 * i = b0 at hI
    obtain ⟨r, h1, h2⟩ := ink_Row2 (gJ.mk s) y (h y (List.mem_of_getElem? hy)) hI (by omega)
    refine ⟨r.out, row_next h2 hb, ?_⟩
    simp only [zM]
    rw [xE hi, yF, xQ hy, zI, h1, zI, eH hi (by omega)]
  · intro kk s hI
    simp only [zM]
    rw [xH, yE]
    exact ⟨_, rfl, row_last hI hl⟩
theorem aDq (p:gJ)(n:Int){b:Nat}(hp:p.out.length≤b)(h:b≤100000000000000):Gr (Fak (gJ.mk p.out) n) (b+22):=by
 unfold Fak;exact (wR p n hp h).bind fun q hq=>Gr.some hq
theorem aKc (p:gJ)(n:Ratio){b:Nat}(hp:p.out.length≤b)(h:b≤10000000000000):Gr (Fa5 (gJ.mk p.out) n) (b+66):=by
 unfold Fa5;simp only [zM];exact (aCe p [n.Num,n.Den] hp (by simp; omega)).bind fun q hq=>Gr.some (by simpa using hq)
theorem loopO_ex {α β γ σ:Type}{body:(γ→Option β)→γ→Option β}(enc:Nat→σ→γ)(l:List α)(I:Nat→σ→Prop)(r:β)(hl:l.length≤9223372036854775807)
    (h: ∀k i s x,l[i]? =some x→i<l.length→I i s→body k (enc i s)=some r∨ ∃s',I (i+1) s'∧body k (enc i s)=k (enc (i+1) s'))(hx: ∀k s,I l.length s→body k (enc l.length s)=some r)(s:σ)(h0:I 0 s):fV body (enc 0 s)=some r:=by
  have key: ∀(d i:Nat) (s:σ) (n:Nat),i+d=l.length→d<n→I i s→fK body n (enc i s)=some r:=by
    intro d
    induction d with
    | zero=>
      intro i s n hd hn hI
      obtain ⟨m,rfl⟩: ∃m,n=m+1:=⟨n - 1,by omega⟩
      obtain rfl:i=l.length:=by omega
      rw [fK]; exact hx _ s hI
    | succ d ih=>
      intro i s n hd hn hI
      obtain ⟨m,rfl⟩: ∃m,n=m+1:=⟨n - 1,by omega⟩
      have hi:i<l.length:=by omega
      rw [fK]
      rcases h (fK body m) i s l[i] (List.getElem?_eq_getElem hi) hi hI with h1 | ⟨s',h1,h2⟩
      · exact h1
      · rw [h2]; exact ih (i+1) s' m (by omega) (by omega) h1
  exact key l.length 0 s FU (by omega) (vJ hl) h0
theorem aSw {l:List Flight}(hl:l.length≤300)(h: ∀f ∈ l,qA f=0):lfF l=some 0:=by
 unfold lfF;rw [decide_eq_false (by omega),if_neg (by simp)];exact (aAw (fun _ f=>qA f) l 0).2 fun j x hx=>h x (List.mem_of_getElem? hx)
theorem aQv {l : List Flight} {m : Mask} {n : Int} (K : List Flight → Option Bool) (h : okL bJ l) (g : aSo m) (hm : mD m) (hn : 0 ≤ n ∧ n ≤ 1000) (hl : l.length ≤ 1048576) (hK : ∀ o, Sam m l o → K o = some true) :
    Fey l m n K ([], 0) = some true := by
  have gm := g.toGm
  have hh := hm.2.2.1.1
  unfold Fey
  refine loopO_ex (fun (i : Nat) (o : List Flight) => (o, (i : Int))) l (fun i o => o.length = i ∧ ∀ (j : Nat) (x : Flight), j < i → l[j]? = some x → qA x = 0 ∧ ∃ y, o[j]? = some y ∧ Good y ∧ mfl m y = mfl m x) true (by omega) ?_ ?_ [] ⟨rfl, fun j x hj => by omega⟩
  · intro kk i o x hx hi hI
    obtain ⟨h1, h2⟩ := hI
    simp only [zM]
    rw [xE hi, yF, xQ hx, zI, aEz x (h.2 x (List.mem_of_getElem? hx)), zI]
    by_cases c : qA x = 0
    · have gx := aCv c
      have hw : IntKind.i64.wrap (n + (i : Int)) = n + (i : Int) := Go.OB.wrap_i64 (by omega) (by omega)
      have hn2 : 0 ≤ n + (i : Int) ∧ n + (i : Int) ≤ 1099511627776 := ⟨by omega, by omega⟩
      have ha : app' 80 o [dfl m (n + (i : Int)) x] = some (o ++ [dfl m (n + (i : Int)) x]) := appR o _ (by simp; omega) (by simp; omega)
      rw [decide_eq_false (fun h => h c), yE, zI, hw, dis_eq gm hh hn2 gx, zI, ha, zI, eH hi (by omega)]
      refine .inr ⟨_, ⟨by simp [h1], ?_⟩, rfl⟩
      intro j y hj hy
      by_cases e : j = i
      · subst e
        obtain rfl := Option.some.inj (hx.symm.trans hy)
        exact ⟨c, _, by rw [List.getElem?_append_right (by omega), h1, Nat.sub_self]; rfl, dis_good gm hn2 gx, dis_mfl g gx⟩
      · obtain ⟨q1, z, q2, q3⟩ := h2 j y (by omega) hy
        exact ⟨q1, z, by rw [List.getElem?_append_left (by omega)]; exact q2, q3⟩
    · rw [decide_eq_true c, yF]; exact .inl rfl
  · intro kk o hI
    obtain ⟨h1, h2⟩ := hI
    simp only [zM]
    rw [xH, yE]
    have gl : ∀ f ∈ l, qA f = 0 := fun f hf => by
      obtain ⟨j, hj⟩ := List.getElem?_of_mem hf
      exact (h2 j f (List.getElem?_eq_some_iff.1 hj).1 hj).1
    have go : ∀ f ∈ o, Good f := fun f hf => by
      obtain ⟨j, hj⟩ := List.getElem?_of_mem hf
      have hjl : j < l.length := by have := (List.getElem?_eq_some_iff.1 hj).1; omega
      obtain ⟨_, y, q2, q3, _⟩ := h2 j l[j] hjl (List.getElem?_eq_getElem hjl)
      obtain rfl := Option.some.inj (hj.symm.trans q2)
      exact q3
    have oko : okL bJ o := ⟨by omega, fun f hf => good_ok (go f hf)⟩
    refine hK o ⟨h1.symm, ?_, ?_⟩
    · rw [aG l h, aG o oko]
      by_cases c : l.length ≤ 300
      · rw [aSw c gl, aSw (by omega) fun f hf => good_iff (go f hf)]
      · unfold lfF
        rw [if_pos (by simp; omega), if_pos (by simp; omega)]
    · intro i
      unfold at'
      by_cases c : 0 ≤ i
      · rw [if_pos c, if_pos c]
        by_cases d : i.toNat < l.length
        · obtain ⟨q1, y, q2, q3, q4⟩ := h2 i.toNat l[i.toNat] d (List.getElem?_eq_getElem d)
          rw [q2, List.getElem?_eq_getElem d, zI, zI, tJ y m gm (aHb q3) hh, tJ _ m gm (aHb (aCv q1)) hh, q4]
        · rw [List.getElem?_eq_none (by omega), List.getElem?_eq_none (by omega)]
      · rw [if_neg c, if_neg c]
theorem facts_ok:Ffg=some true:=by decide+kernel
theorem law_Hide (l : List Flight) (r : Rules) (m : Mask) (b : Int) (s t : Str) (n : Int) (h : okL (fun x => bJ x) l) (hr : aTa r) (hm : mD m) (_hb : i64 b) (hs : okS s) (ht : okS t) (_hn : i64 n) (hl : l.length ≤ 1048576) : Ffd l r m b s t n = some true := by
 have ok : okR r := hr;have e3 := kJ (tV m);unfold Ffd;rw [facts_ok, zI];simp only [zM, xX, Bool.not_true, yE];rw [aIx m hm (by have := hm.2.2.2.1.1; omega)];generalize (aAu m).getD 0 = cm at e3;rw [e3, zI];by_cases c1 : cm = 0;subst c1;rw [decide_eq_false (by simp), yE, zI];by_cases c2 : n < 0;rw [decide_eq_true c2]; rfl;rw [decide_eq_false c2, yE, zI];by_cases c3 : 1000 < n;rw [decide_eq_true c3]; rfl;rw [decide_eq_false c3, yE];refine aQv _ h (aCa e3) hm ⟨by omega, by omega⟩ hl ?_;intro o S;obtain ⟨out, e, t1, t2, t3⟩ := Table_tot (b := b) h ok hm;obtain ⟨i1, a1, b1⟩ := ink_Rows t2 t3;obtain ⟨i2, a2, b2⟩ := aDq i1 e b1 (by decide);obtain ⟨⟨q1, q2⟩, hq⟩ := aKu h hm hs;obtain ⟨i3, a3, b3⟩ := aCe i2 [q1, q2] b2 (by simp);obtain ⟨⟨m1, m2⟩, hmn⟩ := Mean_tot h hm hs;obtain ⟨i4, a4, b4⟩ := aKc i3 m1 b3 (by simp);obtain ⟨i5, a5, b5⟩ := aDq i4 m2 b4 (by simp);obtain ⟨⟨r1, r2⟩, htr⟩ := Trend_tot (s := t) h ok hm;obtain ⟨i6, a6, b6⟩ := aKc i5 r1 b5 (by simp);obtain ⟨i7, a7, b7⟩ := aDq i6 r2 b6 (by simp);obtain ⟨⟨o1, o2⟩, ho, hol⟩ := Odd_tot h hm hs;obtain ⟨i8, a8, b8⟩ := aCe i7 o1 b7 (by dsimp only at hol; simp; omega);have told : ∀ i : gJ, Fcr (some i) = some (str' i.out) := fun _ => rfl;simp only [← S.tab, ← S.trend, ← S.quant, ← S.mean, ← S.odd, t1, zI, a1, a2, hq, a3, hmn, a4, a5, htr, a6, a7, ho, a8, told, decide_true, yF];rw [decide_eq_true c1]; rfl
end Go.Lf
