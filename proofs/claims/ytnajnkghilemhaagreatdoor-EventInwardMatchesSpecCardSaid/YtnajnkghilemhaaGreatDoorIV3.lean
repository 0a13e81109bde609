/- Walks: what each function computes, for every argument; no condition but those that stand in the statements. -/
import Derived.Test.YtnajnkghilemhaaGreatDoorIV0
import Derived.Test.YtnajnkghilemhaaGreatDoorIV2
namespace Go.Proofs.YtnajnkghilemhaaGreatDoor.L
open Go.RowKit Go.OB Go.Lf
set_option maxHeartbeats 4000000 in
theorem F_ref6_Reserved_w (p0 : Str) (r : Bool) (hF : F_ref6_Reserved p0 = some r) (O S : List Nat) (w : World) (H : Hd O w w S []) :
  Calls Tryz.prog 123 ([.string (bs p0)] : List Value).toArray w fun e w' => e = .returned (.bool r) ∧ Hd O w w' S [] := by
 unfold F_ref6_Reserved at hF
 refine yB 18 Tryz.func123 rfl rfl rfl ?_
 refine zC fun K1 hK1 => ?_
 refine zB ?_
 refine zI (.bool false) ?_
 refine (zF (zA (hK1 _ _ ?_)))
 refine zC fun K2 hK2 => ?_
 refine zB ?_
 obtain ⟨x3, e4, hF⟩ := zD hF
 refine zV rfl rfl (zU en160 rfl) (F_ref6_words_w _ e4 _ _ _ (H.enter [] [] (by decide) rfl)) ?_
 rintro _ w7 ⟨v5, rfl, G8⟩
 have H := H.back1 [] rfl G8
 refine ⟨_, rfl, ?_⟩
 refine zI v5 ?_
 refine (zF (zA (hK2 _ _ ?_)))
 obtain ⟨k126, ek127, hF⟩ := joinO_some hF
 refine yL [2, 4, 6, 7, 8, 9, 10, 11, 12, 13, 14, 15, 16, 17] (fun (g : Unit) => []) (fun g wl => Hd O w wl S [] ∧ k126 () = some r) ?_ ?_
 ·skip
  refine zC fun K128 hK128 => ?_
  refine zB ?_
  refine zI (.int .i64 0) ?_
  refine (zF (zA (hK128 _ _ ?_)))
  refine yJ ?_
  unfold F_ref6_Reserved_L1 at hF
  obtain ⟨B239, n240, eB241, hF⟩ := yY hF
  refine xK [2, 4, 6, 7, 8, 9, 10, 11, 12, 13, 14, 15, 16, 17] (fun (g : Nat × Int) => [(4, .int .i64 g.2)]) (fun g wl => Hd O w wl S [.own Rp.str v5 9 x3] ∧ loopN B239 g.1 g.2 = some r) (fun g => g.1) (n240, 0) (zK rfl zL) ⟨H.pick [0] (by decide), hF⟩ ?_
  clear H hF
  rintro ⟨n240, g238⟩ ρ w243 ⟨H, hF⟩
  obtain ⟨n244, rfl, hF⟩ := xE hF
  have hF := xC eB241 hF
  refine zC fun K254 hK254 => ?_
  refine zC fun K255 hK255 => ?_
  refine zB ?_
  refine zM (.int .i64 g238) ?_
  refine zM v5 ?_
  obtain ⟨x256, e257, hF⟩ := zG hF
  obtain ⟨a258, c259, q260⟩ := Sr.len (Sr.of_own (H.item (i := 0) rfl))
  refine zH (yQ (Do_len u22 q260) (congrArg (Value.int .i64) e257)) ?_
  obtain ⟨x261, e262, hF⟩ := zG hF
  refine zH (zS (xZ (a := g238) (b := x256) rfl rfl) e262) ?_
  refine (zF (zA (hK255 _ _ ?_)))
  refine zW (b := x261) rfl (fun c263 => ?_) (fun c263 => ?_)
  ·have hF := zO c263 hF
   refine (yA (zA (hK254 _ _ ?_)))
   refine zC fun K280 hK280 => ?_
   refine yJ ?_
   refine zC fun K281 hK281 => ?_
   refine zB ?_
   refine zM v5 ?_
   refine zM (.int .i64 g238) ?_
   obtain ⟨x282, e283, hF⟩ := zD hF
   obtain ⟨b284, c286, cs287, q288, h291, h292⟩ := own_at (H.item (i := 0) rfl) e283
   obtain rfl : cs287 = [.string (bs x282)] := h291
   refine zH (Do_idx u22 sz9 q288 rfl (yU e283).1 (yU e283).2.1 rfl rfl) ?_
   refine zH (zT one9 rfl (Cells.get h292 (i := 0) rfl)) ?_
   refine zM (.string (bs p0)) ?_
   obtain ⟨x293, e294, hF⟩ := zG hF
   refine zH (zS (xR (s1 := x282) (s2 := p0) rfl rfl) e294) ?_
   refine (zF (zA (hK281 _ _ ?_)))
   refine zW (b := x293) rfl (fun c295 => ?_) (fun c295 => ?_)
   ·have hF := zO c295 hF
    refine zC fun K296 hK296 => ?_
    refine zB ?_
    refine zI (.bool true) ?_
    refine (zF (zA (hK296 _ _ ?_)))
    obtain rfl := someI hF
    refine (zZ (yF (zY (zY (yF (zY (post1 (v1 := .bool true) rfl rfl ?_)))))))
    exact ⟨rfl, H.pick [] (by decide)⟩
   have hF := zN c295 hF
   refine (yA (yR (zA (hK280 _ _ ?_))))
   refine zB ?_
   refine zM (.int .i64 g238) ?_
   obtain ⟨x297, e298, hF⟩ := zG hF
   refine zH (wC (a := g238) (b := 1) rfl rfl e298) ?_
   refine zI (.int .i64 x297) ?_
   exact (zF (zA (meet ⟨(n244, x297), (zK rfl zL), ⟨H.pick [0] (by decide), hF⟩, Nat.lt_succ_self _⟩)))
  have hF := zN c263 hF
  exact (xW (yT (yT (xG (zA (meet ⟨(), zL, ⟨H.pick [] (by decide), hF⟩⟩))))))
 rintro _ ρ w125 ⟨H, hF⟩
 have hF := join_body ek127 hF
 refine zC fun K299 hK299 => ?_
 refine zB ?_
 refine zI (.bool false) ?_
 refine (zF (zA (hK299 _ _ ?_)))
 obtain rfl := someI hF
 refine (zZ (post1 (v1 := .bool false) rfl rfl ?_))
 exact ⟨rfl, H.pick [] (by decide)⟩
set_option maxHeartbeats 4000000 in
set_option maxRecDepth 100000 in
theorem F_ref6_IsName_w (p0 : Str) (r : Bool) (hF : F_ref6_IsName p0 = some r) (O S : List Nat) (w : World) (H : Hd O w w S []) :
  Calls Tryz.prog 72 ([.string (bs p0)] : List Value).toArray w fun e w' => e = .returned (.bool r) ∧ Hd O w w' S [] := by
 unfold F_ref6_IsName at hF
 refine yB 49 Tryz.func72 rfl rfl rfl ?_
 refine zC fun K1 hK1 => ?_
 refine zB ?_
 refine zI (.bool false) ?_
 refine (zF (zA (hK1 _ _ ?_)))
 obtain ⟨k175, ek176, hF⟩ := joinO_some hF
 refine yL [2, 3, 4, 5, 6, 7, 8, 9, 10, 11, 12, 13, 14, 15, 16, 17, 18, 19, 20, 21, 22, 23, 24, 25, 26, 27, 28, 29, 30, 31, 32, 33, 34, 35, 36] (fun (g : Unit) => []) (fun g wl => Hd O w wl S [] ∧ k175 () = some r) ?_ ?_
 ·skip
  refine zC fun K177 hK177 => ?_
  refine zB ?_
  refine zI (.int .i64 0) ?_
  refine (zF (zA (hK177 _ _ ?_)))
  refine yJ ?_
  unfold F_ref6_IsName_L1 at hF
  obtain ⟨B344, n345, eB346, hF⟩ := yY hF
  refine xK [2, 3, 4, 5, 6, 7, 8, 9, 10, 11, 12, 13, 14, 15, 16, 17, 18, 19, 20, 21, 22, 23, 24, 25, 26, 27, 28, 29, 30, 31, 32, 33, 34, 35, 36] (fun (g : Nat × Int) => [(3, .int .i64 g.2)]) (fun g wl => Hd O w wl S [] ∧ loopN B344 g.1 g.2 = some r) (fun g => g.1) (n345, 0) (zK rfl zL) ⟨H.pick [] (by decide), hF⟩ ?_
  clear H hF
  rintro ⟨n345, g343⟩ ρ w348 ⟨H, hF⟩
  obtain ⟨n349, rfl, hF⟩ := xE hF
  have hF := xC eB346 hF
  refine zC fun K356 hK356 => ?_
  refine zC fun K357 hK357 => ?_
  refine zB ?_
  refine zM (.int .i64 g343) ?_
  refine zM (.string (bs p0)) ?_
  obtain ⟨x358, e359, hF⟩ := zG hF
  refine zH (yQ (Do_slen (s1 := p0) u9 rfl) (congrArg (Value.int .i64) e359)) ?_
  obtain ⟨x360, e361, hF⟩ := zG hF
  refine zH (zS (xZ (a := g343) (b := x358) rfl rfl) e361) ?_
  refine (zF (zA (hK357 _ _ ?_)))
  refine zW (b := x360) rfl (fun c362 => ?_) (fun c362 => ?_)
  ·have hF := zO c362 hF
   refine (yA (zA (hK356 _ _ ?_)))
   refine zC fun K396 hK396 => ?_
   refine yJ ?_
   refine zC fun K397 hK397 => ?_
   refine zB ?_
   refine zM (.string (bs p0)) ?_
   refine zM (.int .i64 g343) ?_
   obtain ⟨x398, e399, hF⟩ := zD hF
   refine zH (Do_sidx (s1 := p0) (q := g343) u9 rfl rfl e399) ?_
   refine zI (.int .u8 x398) ?_
   refine (zF (zA (hK397 _ _ ?_)))
   obtain ⟨g425, hF, hK427⟩ := zD hF
   refine yL [14, 15, 16, 17, 18, 19, 20, 21, 22, 23, 24, 25, 26, 27, 28, 29, 30, 31, 32, 33, 34, 35, 36] (fun (g : Unit) => [(36, .bool g425)]) (fun g wl => Hd O w wl S []) ?_ ?_
   ·skip
    refine zB ?_
    refine zM (.int .u8 x398) ?_
    obtain ⟨x428, e429, hF⟩ := zG hF
    refine zH (zS (Do_geq (a := x398) (b := 97) rfl rfl) e429) ?_
    obtain ⟨j430, hF, hK431⟩ := zD hF
    refine RL_cutS 4 [16, 17, 18, 19] [(19, .bool j430)] (fun wl => Hd O w wl S []) ?_ ?_
    ·skip
     refine yK (b := x428) rfl rfl rfl (fun c433 => ?_) (fun c433 => ?_)
     ·have hF := zO c433 hF
      refine zM (.int .u8 x398) ?_
      obtain ⟨x434, e435, hF⟩ := zG hF
      refine zH (zS (Do_leq (a := x398) (b := 122) rfl rfl) e435) ?_
      refine zH (yI (v := .bool x434) rfl rfl) ?_
      obtain rfl := someI hF
      exact zF (zA (meet ⟨(zK rfl zL), H.pick [] (by decide)⟩))
     have hF := zN c433 hF
     refine yD ?_
     refine yD ?_
     refine zH (yE (v := .bool false) rfl rfl) ?_
     obtain rfl := someI hF
     exact zF (zA (meet ⟨(zK rfl zL), H.pick [] (by decide)⟩))
    rintro ρ w432 H
    have hF := hK431
    refine yK (b := j430) rfl rfl rfl (fun c436 => ?_) (fun c436 => ?_)
    ·have hF := zO c436 hF
     refine yD ?_
     refine yD ?_
     refine yD ?_
     refine yD ?_
     refine yD ?_
     refine yD ?_
     refine yD ?_
     refine yD ?_
     refine yD ?_
     refine yD ?_
     refine yD ?_
     refine yD ?_
     refine yD ?_
     refine yD ?_
     refine zH (yI (v := .bool true) rfl rfl) ?_
     refine zH (xY (p := true) rfl) ?_
     obtain rfl := someI hF
     exact (zF (zA (meet ⟨(), (zK rfl zL), H.pick [] (by decide)⟩)))
    have hF := zN c436 hF
    refine zM (.int .i64 g343) ?_
    obtain ⟨x437, e438, hF⟩ := zG hF
    refine zH (zS (Do_gtr (a := g343) (b := 0) rfl rfl) e438) ?_
    refine yK (b := x437) rfl rfl rfl (fun c439 => ?_) (fun c439 => ?_)
    ·have hF := zO c439 hF
     refine zM (.int .u8 x398) ?_
     obtain ⟨x440, e441, hF⟩ := zG hF
     refine zH (zS (Do_geq (a := x398) (b := 48) rfl rfl) e441) ?_
     obtain ⟨j442, hF, hK443⟩ := zD hF
     refine RL_cutS 4 [26, 27, 28, 29] [(29, .bool j442)] (fun wl => Hd O w wl S []) ?_ ?_
     ·skip
      refine yK (b := x440) rfl rfl rfl (fun c445 => ?_) (fun c445 => ?_)
      ·have hF := zO c445 hF
       refine zM (.int .u8 x398) ?_
       obtain ⟨x446, e447, hF⟩ := zG hF
       refine zH (zS (Do_leq (a := x398) (b := 57) rfl rfl) e447) ?_
       refine zH (yI (v := .bool x446) rfl rfl) ?_
       obtain rfl := someI hF
       exact zF (zA (meet ⟨(zK rfl zL), H.pick [] (by decide)⟩))
      have hF := zN c445 hF
      refine yD ?_
      refine yD ?_
      refine zH (yE (v := .bool false) rfl rfl) ?_
      obtain rfl := someI hF
      exact zF (zA (meet ⟨(zK rfl zL), H.pick [] (by decide)⟩))
     rintro ρ w444 H
     have hF := hK443
     refine yK (b := j442) rfl rfl rfl (fun c448 => ?_) (fun c448 => ?_)
     ·have hF := zO c448 hF
      refine yD ?_
      refine yD ?_
      refine zH (yI (v := .bool true) rfl rfl) ?_
      refine zH (yI (v := .bool true) rfl rfl) ?_
      refine zH (yE (v := .bool true) rfl rfl) ?_
      refine zH (xY (p := true) rfl) ?_
      obtain rfl := someI hF
      exact (zF (zA (meet ⟨(), (zK rfl zL), H.pick [] (by decide)⟩)))
     have hF := zN c448 hF
     refine zM (.int .u8 x398) ?_
     obtain ⟨x449, e450, hF⟩ := zG hF
     refine zH (zS (yP (a := x398) (b := 45) rfl rfl) e450) ?_
     refine zH (yE (v := .bool x449) rfl rfl) ?_
     refine zH (yI (v := .bool x449) rfl rfl) ?_
     refine zH (yE (v := .bool x449) rfl rfl) ?_
     obtain ⟨x451, e452, hF⟩ := zG hF
     refine zH (zS (xY (p := x449) rfl) e452) ?_
     obtain rfl := someI hF
     exact (zF (zA (meet ⟨(), (zK rfl zL), H.pick [] (by decide)⟩)))
    have hF := zN c439 hF
    refine yD ?_
    refine yD ?_
    refine yD ?_
    refine yD ?_
    refine yD ?_
    refine yD ?_
    refine yD ?_
    refine yD ?_
    refine yD ?_
    refine yD ?_
    refine zH (yE (v := .bool false) rfl rfl) ?_
    refine zH (yE (v := .bool false) rfl rfl) ?_
    refine zH (xY (p := false) rfl) ?_
    obtain rfl := someI hF
    exact (zF (zA (meet ⟨(), (zK rfl zL), H.pick [] (by decide)⟩)))
   rintro _ ρ w426 H
   have hF := hK427
   refine zW (b := g425) rfl (fun c453 => ?_) (fun c453 => ?_)
   ·have hF := zO c453 hF
    refine zC fun K454 hK454 => ?_
    refine zB ?_
    refine zI (.bool false) ?_
    refine (zF (zA (hK454 _ _ ?_)))
    obtain rfl := someI hF
    refine (zZ (yF (zY (zY (yF (zY (post1 (v1 := .bool false) rfl rfl ?_)))))))
    exact ⟨rfl, H.pick [] (by decide)⟩
   have hF := zN c453 hF
   refine (yA (yR (zA (hK396 _ _ ?_))))
   refine zB ?_
   refine zM (.int .i64 g343) ?_
   obtain ⟨x455, e456, hF⟩ := zG hF
   refine zH (wC (a := g343) (b := 1) rfl rfl e456) ?_
   refine zI (.int .i64 x455) ?_
   exact (zF (zA (meet ⟨(n349, x455), (zK rfl zL), ⟨H.pick [] (by decide), hF⟩, Nat.lt_succ_self _⟩)))
  have hF := zN c362 hF
  exact (xW (yT (yT (xG (zA (meet ⟨(), zL, ⟨H.pick [] (by decide), hF⟩⟩))))))
 rintro _ ρ w174 ⟨H, hF⟩
 have hF := join_body ek176 hF
 obtain ⟨g475, hF, hK477⟩ := zD hF
 refine yL [2, 37, 38, 39, 40, 41, 42, 43, 44, 45, 46, 47, 48] (fun (g : Unit) => [(2, .bool g475)]) (fun g wl => Hd O w wl S []) ?_ ?_
 ·skip
  refine zB ?_
  refine zM (.string (bs p0)) ?_
  obtain ⟨x478, e479, hF⟩ := zG hF
  refine zH (zS (Do_neqs (s1 := p0) (s2 := []) rfl rfl) e479) ?_
  obtain ⟨j480, hF, hK481⟩ := zD hF
  refine RL_cutS 5 [39, 40, 41, 42, 43] [(43, .bool j480)] (fun wl => Hd O w wl S []) ?_ ?_
  ·skip
   refine yK (b := x478) rfl rfl rfl (fun c483 => ?_) (fun c483 => ?_)
   ·have hF := zO c483 hF
    refine zM (.string (bs p0)) ?_
    obtain ⟨x484, e485, hF⟩ := zG hF
    refine zH (yQ (Do_slen (s1 := p0) u9 rfl) (congrArg (Value.int .i64) e485)) ?_
    obtain ⟨x486, e487, hF⟩ := zG hF
    refine zH (zS (Do_leq (a := x484) (b := 30) rfl rfl) e487) ?_
    refine zH (yI (v := .bool x486) rfl rfl) ?_
    obtain rfl := someI hF
    exact zF (zA (meet ⟨(zK rfl zL), H.pick [] (by decide)⟩))
   have hF := zN c483 hF
   refine yD ?_
   refine yD ?_
   refine yD ?_
   refine zH (yE (v := .bool false) rfl rfl) ?_
   obtain rfl := someI hF
   exact zF (zA (meet ⟨(zK rfl zL), H.pick [] (by decide)⟩))
  rintro ρ w482 H
  have hF := hK481
  refine yK (b := j480) rfl rfl rfl (fun c488 => ?_) (fun c488 => ?_)
  ·have hF := zO c488 hF
   refine zM (.string (bs p0)) ?_
   have H489 := H
   obtain ⟨x490, e491, hF⟩ := zD hF
   refine zV rfl rfl (zU en123 rfl) (F_ref6_Reserved_w p0 _ e491 _ _ _ (H.enter [] [] (by decide) rfl)) ?_
   rintro _ w492 ⟨rfl, G493⟩
   have H := H489.step (G493.only : Only [] _ _)
   refine ⟨_, rfl, ?_⟩
   obtain ⟨x494, e495, hF⟩ := zG hF
   refine zH (zS (xY (p := x490) rfl) e495) ?_
   refine zH (yI (v := .bool x494) rfl rfl) ?_
   refine zI (.bool x494) ?_
   obtain rfl := someI hF
   exact (zF (zA (meet ⟨(), (zK rfl zL), H.pick [] (by decide)⟩)))
  have hF := zN c488 hF
  refine yD ?_
  refine yD ?_
  refine yD ?_
  refine zH (yE (v := .bool false) rfl rfl) ?_
  refine zI (.bool false) ?_
  obtain rfl := someI hF
  exact (zF (zA (meet ⟨(), (zK rfl zL), H.pick [] (by decide)⟩)))
 rintro _ ρ w476 H
 have hF := hK477
 obtain rfl := someI hF
 refine (zZ (post1 (v1 := .bool g475) rfl rfl ?_))
 exact ⟨rfl, H.pick [] (by decide)⟩
set_option maxHeartbeats 4000000 in
set_option maxRecDepth 100000 in
theorem F_ref6_nodeFault_w (p0 : Cond) (v1 : Value) (r : Int) (hF : F_ref6_nodeFault p0 = some r) (O S : List Nat) (w : World) (H : Hd O w w S [.fz (.sl rCond v1 p0.Kids)]) :
  Calls Tryz.prog 158 ([.agg [.int .i64 p0.Kind, .string (bs p0.Name), .string (bs p0.Other), .int .i64 p0.Op, .int .i64 p0.N, .int .i64 p0.Frames, v1].toArray] : List Value).toArray w fun e w' => e = .returned (.int .i64 r) ∧ Hd O w w' S [] := by
 unfold F_ref6_nodeFault at hF
 refine yB 135 Tryz.func158 rfl rfl rfl ?_
 refine zC fun K3 hK3 => ?_
 refine zB ?_
 refine yX rfl rfl (Lx_box (cs := [.int .i64 p0.Kind, .string (bs p0.Name), .string (bs p0.Other), .int .i64 p0.Op, .int .i64 p0.N, .int .i64 p0.Frames, v1]) rfl H) ?_
 rintro _ w6 ⟨b4, rfl, H⟩
 refine zI (.int .i64 0) ?_
 refine (zF (zA (hK3 _ _ ?_)))
 refine zC fun K15 hK15 => ?_
 refine zC fun K16 hK16 => ?_
 refine zB ?_
 refine zH (fa54_0 rfl) ?_
 refine zH (zT one3 rfl (Cells.get (Blk.cells (H.item (i := 1) rfl)) (i := 0) rfl)) ?_
 have H17 := H
 obtain ⟨x18, e19, hF⟩ := zD hF
 refine zV rfl rfl (zU en63 rfl) (F_ref6_outside_w p0.Kind 1 15 _ e19 _ _ _ (H.enter [] [] (by decide) rfl)) ?_
 rintro _ w20 ⟨rfl, G21⟩
 have H := H17.step (G21.only : Only [] _ _)
 refine ⟨_, rfl, ?_⟩
 refine (zF (zA (hK16 _ _ ?_)))
 refine zW (b := x18) rfl (fun c22 => ?_) (fun c22 => ?_)
 ·have hF := zO c22 hF
  refine zC fun K23 hK23 => ?_
  refine zB ?_
  refine zI (.int .i64 7) ?_
  refine (zF (zA (hK23 _ _ ?_)))
  obtain rfl := someI hF
  refine (zZ (zY (post1 (v1 := .int .i64 7) rfl rfl ?_)))
  exact ⟨rfl, H.pick [] (by decide)⟩
 have hF := zN c22 hF
 refine (yA (zA (hK15 _ _ ?_)))
 refine zC fun K24 hK24 => ?_
 refine zB ?_
 refine zH (fa54_0 rfl) ?_
 refine zH (zT one3 rfl (Cells.get (Blk.cells (H.item (i := 1) rfl)) (i := 0) rfl)) ?_
 have H25 := H
 obtain ⟨⟨x26, x27, x28, x29, x30, x31⟩, e32, hF⟩ := zD hF
 refine zV rfl rfl (zU en189 rfl) (F_ref6_fields_w p0.Kind _ e32 _ _ _ (H.enter [] [] (by decide) rfl)) ?_
 rintro _ w33 ⟨rfl, G34⟩
 have H := H25.step (G34.only : Only [] _ _)
 refine ⟨_, rfl, ?_⟩
 refine zM (.tuple #[.bool x26, .bool x27, .bool x28, .bool x29, .bool x30, .int .i64 x31]) ?_
 refine zH (wB (v := .bool x26) rfl rfl) ?_
 refine zH (wB (v := .bool x27) rfl rfl) ?_
 refine zH (wB (v := .bool x28) rfl rfl) ?_
 refine zH (wB (v := .bool x29) rfl rfl) ?_
 refine zH (wB (v := .bool x30) rfl rfl) ?_
 refine zH (wB (v := .int .i64 x31) rfl rfl) ?_
 refine zI (.bool x26) ?_
 refine zI (.bool x27) ?_
 refine zI (.bool x28) ?_
 refine zI (.bool x29) ?_
 refine zI (.bool x30) ?_
 refine zI (.int .i64 x31) ?_
 refine (zF (zA (hK24 _ _ ?_)))
 refine zC fun K81 hK81 => ?_
 obtain ⟨g123, hF, hK125⟩ := zD hF
 refine yL [22, 23, 24, 25, 26, 27, 28, 29, 30, 31, 32, 33, 34, 35, 36, 37, 38, 39, 40, 41, 42, 43, 44, 45, 46, 47, 48, 49, 50, 51, 52, 53, 54, 55, 56, 57, 58, 59, 60, 61, 62, 63, 64] (fun (g : Unit) => [(64, .bool g123)]) (fun g wl => Hd O w wl S [.fz (.sl rCond v1 p0.Kids), .blk b4 [.int .i64 p0.Kind, .string (bs p0.Name), .string (bs p0.Other), .int .i64 p0.Op, .int .i64 p0.N, .int .i64 p0.Frames, v1] 54]) ?_ ?_
 ·skip
  refine zB ?_
  refine zM (.bool x26) ?_
  obtain ⟨x126, e127, hF⟩ := zG hF
  refine zH (zS (xY (p := x26) rfl) e127) ?_
  obtain ⟨j128, hF, hK129⟩ := zD hF
  refine RL_cutS 5 [24, 25, 26, 27, 28] [(28, .bool j128)] (fun wl => Hd O w wl S [.fz (.sl rCond v1 p0.Kids), .blk b4 [.int .i64 p0.Kind, .string (bs p0.Name), .string (bs p0.Other), .int .i64 p0.Op, .int .i64 p0.N, .int .i64 p0.Frames, v1] 54]) ?_ ?_
  ·skip
   refine yK (b := x126) rfl rfl rfl (fun c131 => ?_) (fun c131 => ?_)
   ·have hF := zO c131 hF
    refine zH (fa54_1 rfl) ?_
    refine zH (zT one9 rfl (Cells.get (Blk.cells (H.item (i := 1) rfl)) (i := 1) rfl)) ?_
    obtain ⟨x132, e133, hF⟩ := zG hF
    refine zH (zS (Do_neqs (s1 := p0.Name) (s2 := []) rfl rfl) e133) ?_
    refine zH (yI (v := .bool x132) rfl rfl) ?_
    obtain rfl := someI hF
    exact zF (zA (meet ⟨(zK rfl zL), H.pick [0, 1] (by decide)⟩))
   have hF := zN c131 hF
   refine yD ?_
   refine yD ?_
   refine yD ?_
   refine zH (yE (v := .bool false) rfl rfl) ?_
   obtain rfl := someI hF
   exact zF (zA (meet ⟨(zK rfl zL), H.pick [0, 1] (by decide)⟩))
  rintro ρ w130 H
  have hF := hK129
  obtain ⟨j134, hF, hK135⟩ := zD hF
  refine RL_cutS 9 [29, 30, 31, 32, 33, 34, 35, 36, 37] [(37, .bool j134)] (fun wl => Hd O w wl S [.fz (.sl rCond v1 p0.Kids), .blk b4 [.int .i64 p0.Kind, .string (bs p0.Name), .string (bs p0.Other), .int .i64 p0.Op, .int .i64 p0.N, .int .i64 p0.Frames, v1] 54]) ?_ ?_
  ·skip
   refine yK (b := j128) rfl rfl rfl (fun c137 => ?_) (fun c137 => ?_)
   ·have hF := zO c137 hF
    refine yD ?_
    refine yD ?_
    refine yD ?_
    refine yD ?_
    refine yD ?_
    refine yD ?_
    refine yD ?_
    refine zH (yI (v := .bool true) rfl rfl) ?_
    obtain rfl := someI hF
    exact zF (zA (meet ⟨(zK rfl zL), H.pick [0, 1] (by decide)⟩))
   have hF := zN c137 hF
   refine zM (.bool x27) ?_
   obtain ⟨x138, e139, hF⟩ := zG hF
   refine zH (zS (xY (p := x27) rfl) e139) ?_
   refine yK (b := x138) rfl rfl rfl (fun c140 => ?_) (fun c140 => ?_)
   ·have hF := zO c140 hF
    refine zH (fa54_2 rfl) ?_
    refine zH (zT one9 rfl (Cells.get (Blk.cells (H.item (i := 1) rfl)) (i := 2) rfl)) ?_
    obtain ⟨x141, e142, hF⟩ := zG hF
    refine zH (zS (Do_neqs (s1 := p0.Other) (s2 := []) rfl rfl) e142) ?_
    refine zH (yI (v := .bool x141) rfl rfl) ?_
    refine zH (yE (v := .bool x141) rfl rfl) ?_
    obtain rfl := someI hF
    exact zF (zA (meet ⟨(zK rfl zL), H.pick [0, 1] (by decide)⟩))
   have hF := zN c140 hF
   refine yD ?_
   refine yD ?_
   refine yD ?_
   refine zH (yE (v := .bool false) rfl rfl) ?_
   refine zH (yE (v := .bool false) rfl rfl) ?_
   obtain rfl := someI hF
   exact zF (zA (meet ⟨(zK rfl zL), H.pick [0, 1] (by decide)⟩))
  rintro ρ w136 H
  have hF := hK135
  obtain ⟨j143, hF, hK144⟩ := zD hF
  refine RL_cutS 9 [38, 39, 40, 41, 42, 43, 44, 45, 46] [(46, .bool j143)] (fun wl => Hd O w wl S [.fz (.sl rCond v1 p0.Kids), .blk b4 [.int .i64 p0.Kind, .string (bs p0.Name), .string (bs p0.Other), .int .i64 p0.Op, .int .i64 p0.N, .int .i64 p0.Frames, v1] 54]) ?_ ?_
  ·skip
   refine yK (b := j134) rfl rfl rfl (fun c146 => ?_) (fun c146 => ?_)
   ·have hF := zO c146 hF
    refine yD ?_
    refine yD ?_
    refine yD ?_
    refine yD ?_
    refine yD ?_
    refine yD ?_
    refine yD ?_
    refine zH (yI (v := .bool true) rfl rfl) ?_
    obtain rfl := someI hF
    exact zF (zA (meet ⟨(zK rfl zL), H.pick [0, 1] (by decide)⟩))
   have hF := zN c146 hF
   refine zM (.bool x28) ?_
   obtain ⟨x147, e148, hF⟩ := zG hF
   refine zH (zS (xY (p := x28) rfl) e148) ?_
   refine yK (b := x147) rfl rfl rfl (fun c149 => ?_) (fun c149 => ?_)
   ·have hF := zO c149 hF
    refine zH (fa54_3 rfl) ?_
    refine zH (zT one3 rfl (Cells.get (Blk.cells (H.item (i := 1) rfl)) (i := 3) rfl)) ?_
    obtain ⟨x150, e151, hF⟩ := zG hF
    refine zH (zS (Do_neq (a := p0.Op) (b := 0) rfl rfl) e151) ?_
    refine zH (yI (v := .bool x150) rfl rfl) ?_
    refine zH (yE (v := .bool x150) rfl rfl) ?_
    obtain rfl := someI hF
    exact zF (zA (meet ⟨(zK rfl zL), H.pick [0, 1] (by decide)⟩))
   have hF := zN c149 hF
   refine yD ?_
   refine yD ?_
   refine yD ?_
   refine zH (yE (v := .bool false) rfl rfl) ?_
   refine zH (yE (v := .bool false) rfl rfl) ?_
   obtain rfl := someI hF
   exact zF (zA (meet ⟨(zK rfl zL), H.pick [0, 1] (by decide)⟩))
  rintro ρ w145 H
  have hF := hK144
  obtain ⟨j152, hF, hK153⟩ := zD hF
  refine RL_cutS 9 [47, 48, 49, 50, 51, 52, 53, 54, 55] [(55, .bool j152)] (fun wl => Hd O w wl S [.fz (.sl rCond v1 p0.Kids), .blk b4 [.int .i64 p0.Kind, .string (bs p0.Name), .string (bs p0.Other), .int .i64 p0.Op, .int .i64 p0.N, .int .i64 p0.Frames, v1] 54]) ?_ ?_
  ·skip
   refine yK (b := j143) rfl rfl rfl (fun c155 => ?_) (fun c155 => ?_)
   ·have hF := zO c155 hF
    refine yD ?_
    refine yD ?_
    refine yD ?_
    refine yD ?_
    refine yD ?_
    refine yD ?_
    refine yD ?_
    refine zH (yI (v := .bool true) rfl rfl) ?_
    obtain rfl := someI hF
    exact zF (zA (meet ⟨(zK rfl zL), H.pick [0, 1] (by decide)⟩))
   have hF := zN c155 hF
   refine zM (.bool x29) ?_
   obtain ⟨x156, e157, hF⟩ := zG hF
   refine zH (zS (xY (p := x29) rfl) e157) ?_
   refine yK (b := x156) rfl rfl rfl (fun c158 => ?_) (fun c158 => ?_)
   ·have hF := zO c158 hF
    refine zH (fa54_4 rfl) ?_
    refine zH (zT one3 rfl (Cells.get (Blk.cells (H.item (i := 1) rfl)) (i := 4) rfl)) ?_
    obtain ⟨x159, e160, hF⟩ := zG hF
    refine zH (zS (Do_neq (a := p0.N) (b := 0) rfl rfl) e160) ?_
    refine zH (yI (v := .bool x159) rfl rfl) ?_
    refine zH (yE (v := .bool x159) rfl rfl) ?_
    obtain rfl := someI hF
    exact zF (zA (meet ⟨(zK rfl zL), H.pick [0, 1] (by decide)⟩))
   have hF := zN c158 hF
   refine yD ?_
   refine yD ?_
   refine yD ?_
   refine zH (yE (v := .bool false) rfl rfl) ?_
   refine zH (yE (v := .bool false) rfl rfl) ?_
   obtain rfl := someI hF
   exact zF (zA (meet ⟨(zK rfl zL), H.pick [0, 1] (by decide)⟩))
  rintro ρ w154 H
  have hF := hK153
  refine yK (b := j152) rfl rfl rfl (fun c161 => ?_) (fun c161 => ?_)
  ·have hF := zO c161 hF
   refine yD ?_
   refine yD ?_
   refine yD ?_
   refine yD ?_
   refine yD ?_
   refine yD ?_
   refine yD ?_
   refine zH (yI (v := .bool true) rfl rfl) ?_
   obtain rfl := someI hF
   exact (zF (zA (meet ⟨(), (zK rfl zL), H.pick [0, 1] (by decide)⟩)))
  have hF := zN c161 hF
  refine zM (.bool x30) ?_
  obtain ⟨x162, e163, hF⟩ := zG hF
  refine zH (zS (xY (p := x30) rfl) e163) ?_
  refine yK (b := x162) rfl rfl rfl (fun c164 => ?_) (fun c164 => ?_)
  ·have hF := zO c164 hF
   refine zH (fa54_5 rfl) ?_
   refine zH (zT one3 rfl (Cells.get (Blk.cells (H.item (i := 1) rfl)) (i := 5) rfl)) ?_
   obtain ⟨x165, e166, hF⟩ := zG hF
   refine zH (zS (Do_neq (a := p0.Frames) (b := 0) rfl rfl) e166) ?_
   refine zH (yI (v := .bool x165) rfl rfl) ?_
   refine zH (yE (v := .bool x165) rfl rfl) ?_
   obtain rfl := someI hF
   exact (zF (zA (meet ⟨(), (zK rfl zL), H.pick [0, 1] (by decide)⟩)))
  have hF := zN c164 hF
  refine yD ?_
  refine yD ?_
  refine yD ?_
  refine zH (yE (v := .bool false) rfl rfl) ?_
  refine zH (yE (v := .bool false) rfl rfl) ?_
  obtain rfl := someI hF
  exact (zF (zA (meet ⟨(), (zK rfl zL), H.pick [0, 1] (by decide)⟩)))
 rintro _ ρ w124 H
 have hF := hK125
 refine zW (b := g123) rfl (fun c167 => ?_) (fun c167 => ?_)
 ·have hF := zO c167 hF
  refine zC fun K168 hK168 => ?_
  refine zB ?_
  refine zI (.int .i64 2) ?_
  refine (zF (zA (hK168 _ _ ?_)))
  obtain rfl := someI hF
  refine (zZ (zY (post1 (v1 := .int .i64 2) rfl rfl ?_)))
  exact ⟨rfl, H.pick [] (by decide)⟩
 have hF := zN c167 hF
 refine (yA (zA (hK81 _ _ ?_)))
 refine zC fun K198 hK198 => ?_
 obtain ⟨g223, hF, hK225⟩ := zD hF
 refine yL [65, 66, 67, 68, 69, 70, 71, 72, 73, 74, 75, 76, 77, 78, 79, 80, 81, 82, 83] (fun (g : Unit) => [(83, .bool g223)]) (fun g wl => Hd O w wl S [.fz (.sl rCond v1 p0.Kids), .blk b4 [.int .i64 p0.Kind, .string (bs p0.Name), .string (bs p0.Other), .int .i64 p0.Op, .int .i64 p0.N, .int .i64 p0.Frames, v1] 54]) ?_ ?_
 ·skip
  refine zB ?_
  refine zM (.int .i64 x31) ?_
  obtain ⟨x226, e227, hF⟩ := zG hF
  refine zH (zS (Do_geq (a := x31) (b := 0) rfl rfl) e227) ?_
  obtain ⟨j228, hF, hK229⟩ := zD hF
  refine RL_cutS 7 [67, 68, 69, 70, 71, 72, 73] [(73, .bool j228)] (fun wl => Hd O w wl S [.fz (.sl rCond v1 p0.Kids), .blk b4 [.int .i64 p0.Kind, .string (bs p0.Name), .string (bs p0.Other), .int .i64 p0.Op, .int .i64 p0.N, .int .i64 p0.Frames, v1] 54]) ?_ ?_
  ·skip
   refine yK (b := x226) rfl rfl rfl (fun c231 => ?_) (fun c231 => ?_)
   ·have hF := zO c231 hF
    refine zH (fa54_6 rfl) ?_
    refine zH (zT one52 rfl (Cells.get (Blk.cells (H.item (i := 1) rfl)) (i := 6) rfl)) ?_
    obtain ⟨x232, e233, hF⟩ := zG hF
    obtain ⟨a234, c235, q236⟩ := SlF.len ((H.item (i := 0) rfl))
    refine zH (yQ (Do_len u52 q236) (congrArg (Value.int .i64) e233)) ?_
    refine zM (.int .i64 x31) ?_
    obtain ⟨x237, e238, hF⟩ := zG hF
    refine zH (zS (Do_neq (a := x232) (b := x31) rfl rfl) e238) ?_
    refine zH (yI (v := .bool x237) rfl rfl) ?_
    obtain rfl := someI hF
    exact zF (zA (meet ⟨(zK rfl zL), H.pick [0, 1] (by decide)⟩))
   have hF := zN c231 hF
   refine yD ?_
   refine yD ?_
   refine yD ?_
   refine yD ?_
   refine yD ?_
   refine zH (yE (v := .bool false) rfl rfl) ?_
   obtain rfl := someI hF
   exact zF (zA (meet ⟨(zK rfl zL), H.pick [0, 1] (by decide)⟩))
  rintro ρ w230 H
  have hF := hK229
  refine yK (b := j228) rfl rfl rfl (fun c239 => ?_) (fun c239 => ?_)
  ·have hF := zO c239 hF
   refine yD ?_
   refine yD ?_
   refine yD ?_
   refine yD ?_
   refine yD ?_
   refine yD ?_
   refine yD ?_
   refine yD ?_
   refine zH (yI (v := .bool true) rfl rfl) ?_
   obtain rfl := someI hF
   exact (zF (zA (meet ⟨(), (zK rfl zL), H.pick [0, 1] (by decide)⟩)))
  have hF := zN c239 hF
  refine zM (.int .i64 x31) ?_
  obtain ⟨x240, e241, hF⟩ := zG hF
  refine zH (zS (xZ (a := x31) (b := 0) rfl rfl) e241) ?_
  refine yK (b := x240) rfl rfl rfl (fun c242 => ?_) (fun c242 => ?_)
  ·have hF := zO c242 hF
   refine zH (fa54_6 rfl) ?_
   refine zH (zT one52 rfl (Cells.get (Blk.cells (H.item (i := 1) rfl)) (i := 6) rfl)) ?_
   obtain ⟨x243, e244, hF⟩ := zG hF
   obtain ⟨a245, c246, q247⟩ := SlF.len ((H.item (i := 0) rfl))
   refine zH (yQ (Do_len u52 q247) (congrArg (Value.int .i64) e244)) ?_
   obtain ⟨x248, e249, hF⟩ := zG hF
   refine zH (zS (xZ (a := x243) (b := 2) rfl rfl) e249) ?_
   refine zH (yI (v := .bool x248) rfl rfl) ?_
   refine zH (yE (v := .bool x248) rfl rfl) ?_
   obtain rfl := someI hF
   exact (zF (zA (meet ⟨(), (zK rfl zL), H.pick [0, 1] (by decide)⟩)))
  have hF := zN c242 hF
  refine yD ?_
  refine yD ?_
  refine yD ?_
  refine yD ?_
  refine zH (yE (v := .bool false) rfl rfl) ?_
  refine zH (yE (v := .bool false) rfl rfl) ?_
  obtain rfl := someI hF
  exact (zF (zA (meet ⟨(), (zK rfl zL), H.pick [0, 1] (by decide)⟩)))
 rintro _ ρ w224 H
 have hF := hK225
 refine zW (b := g223) rfl (fun c250 => ?_) (fun c250 => ?_)
 ·have hF := zO c250 hF
  refine zC fun K251 hK251 => ?_
  refine zB ?_
  refine zI (.int .i64 2) ?_
  refine (zF (zA (hK251 _ _ ?_)))
  obtain rfl := someI hF
  refine (zZ (zY (post1 (v1 := .int .i64 2) rfl rfl ?_)))
  exact ⟨rfl, H.pick [] (by decide)⟩
 have hF := zN c250 hF
 refine (yA (zA (hK198 _ _ ?_)))
 refine zC fun K277 hK277 => ?_
 obtain ⟨g298, hF, hK300⟩ := zD hF
 refine yL [84, 85, 86, 87, 88, 89, 90, 91, 92, 93, 94, 95, 96, 97, 98, 99] (fun (g : Unit) => [(99, .bool g298)]) (fun g wl => Hd O w wl S [.fz (.sl rCond v1 p0.Kids), .blk b4 [.int .i64 p0.Kind, .string (bs p0.Name), .string (bs p0.Other), .int .i64 p0.Op, .int .i64 p0.N, .int .i64 p0.Frames, v1] 54]) ?_ ?_
 ·skip
  refine zB ?_
  refine zM (.bool x26) ?_
  obtain ⟨j301, hF, hK302⟩ := zD hF
  refine RL_cutS 6 [85, 86, 87, 88, 89, 90] [(90, .bool j301)] (fun wl => Hd O w wl S [.fz (.sl rCond v1 p0.Kids), .blk b4 [.int .i64 p0.Kind, .string (bs p0.Name), .string (bs p0.Other), .int .i64 p0.Op, .int .i64 p0.N, .int .i64 p0.Frames, v1] 54]) ?_ ?_
  ·skip
   refine yK (b := x26) rfl rfl rfl (fun c304 => ?_) (fun c304 => ?_)
   ·have hF := zO c304 hF
    refine zH (fa54_1 rfl) ?_
    refine zH (zT one9 rfl (Cells.get (Blk.cells (H.item (i := 1) rfl)) (i := 1) rfl)) ?_
    have H305 := H
    obtain ⟨x306, e307, hF⟩ := zD hF
    refine zV rfl rfl (zU en72 rfl) (F_ref6_IsName_w p0.Name _ e307 _ _ _ (H.enter [] [] (by decide) rfl)) ?_
    rintro _ w308 ⟨rfl, G309⟩
    have H := H305.step (G309.only : Only [] _ _)
    refine ⟨_, rfl, ?_⟩
    obtain ⟨x310, e311, hF⟩ := zG hF
    refine zH (zS (xY (p := x306) rfl) e311) ?_
    refine zH (yI (v := .bool x310) rfl rfl) ?_
    obtain rfl := someI hF
    exact zF (zA (meet ⟨(zK rfl zL), H.pick [0, 1] (by decide)⟩))
   have hF := zN c304 hF
   refine yD ?_
   refine yD ?_
   refine yD ?_
   refine yD ?_
   refine zH (yE (v := .bool false) rfl rfl) ?_
   obtain rfl := someI hF
   exact zF (zA (meet ⟨(zK rfl zL), H.pick [0, 1] (by decide)⟩))
  rintro ρ w303 H
  have hF := hK302
  refine yK (b := j301) rfl rfl rfl (fun c312 => ?_) (fun c312 => ?_)
  ·have hF := zO c312 hF
   refine yD ?_
   refine yD ?_
   refine yD ?_
   refine yD ?_
   refine yD ?_
   refine yD ?_
   refine yD ?_
   refine zH (yI (v := .bool true) rfl rfl) ?_
   obtain rfl := someI hF
   exact (zF (zA (meet ⟨(), (zK rfl zL), H.pick [0, 1] (by decide)⟩)))
  have hF := zN c312 hF
  refine zM (.bool x27) ?_
  refine yK (b := x27) rfl rfl rfl (fun c313 => ?_) (fun c313 => ?_)
  ·have hF := zO c313 hF
   refine zH (fa54_2 rfl) ?_
   refine zH (zT one9 rfl (Cells.get (Blk.cells (H.item (i := 1) rfl)) (i := 2) rfl)) ?_
   have H314 := H
   obtain ⟨x315, e316, hF⟩ := zD hF
   refine zV rfl rfl (zU en72 rfl) (F_ref6_IsName_w p0.Other _ e316 _ _ _ (H.enter [] [] (by decide) rfl)) ?_
   rintro _ w317 ⟨rfl, G318⟩
   have H := H314.step (G318.only : Only [] _ _)
   refine ⟨_, rfl, ?_⟩
   obtain ⟨x319, e320, hF⟩ := zG hF
   refine zH (zS (xY (p := x315) rfl) e320) ?_
   refine zH (yI (v := .bool x319) rfl rfl) ?_
   refine zH (yE (v := .bool x319) rfl rfl) ?_
   obtain rfl := someI hF
   exact (zF (zA (meet ⟨(), (zK rfl zL), H.pick [0, 1] (by decide)⟩)))
  have hF := zN c313 hF
  refine yD ?_
  refine yD ?_
  refine yD ?_
  refine yD ?_
  refine zH (yE (v := .bool false) rfl rfl) ?_
  refine zH (yE (v := .bool false) rfl rfl) ?_
  obtain rfl := someI hF
  exact (zF (zA (meet ⟨(), (zK rfl zL), H.pick [0, 1] (by decide)⟩)))
 rintro _ ρ w299 H
 have hF := hK300
 refine zW (b := g298) rfl (fun c321 => ?_) (fun c321 => ?_)
 ·have hF := zO c321 hF
  refine zC fun K322 hK322 => ?_
  refine zB ?_
  refine zI (.int .i64 8) ?_
  refine (zF (zA (hK322 _ _ ?_)))
  obtain rfl := someI hF
  refine (zZ (zY (post1 (v1 := .int .i64 8) rfl rfl ?_)))
  exact ⟨rfl, H.pick [] (by decide)⟩
 have hF := zN c321 hF
 refine (yA (zA (hK277 _ _ ?_)))
 refine zC fun K334 hK334 => ?_
 obtain ⟨g341, hF, hK343⟩ := zD hF
 refine yL [100, 101, 102, 103, 104, 105] (fun (g : Unit) => [(105, .bool g341)]) (fun g wl => Hd O w wl S [.fz (.sl rCond v1 p0.Kids), .blk b4 [.int .i64 p0.Kind, .string (bs p0.Name), .string (bs p0.Other), .int .i64 p0.Op, .int .i64 p0.N, .int .i64 p0.Frames, v1] 54]) ?_ ?_
 ·skip
  refine zB ?_
  refine zM (.bool x28) ?_
  refine yK (b := x28) rfl rfl rfl (fun c344 => ?_) (fun c344 => ?_)
  ·have hF := zO c344 hF
   refine zH (fa54_3 rfl) ?_
   refine zH (zT one3 rfl (Cells.get (Blk.cells (H.item (i := 1) rfl)) (i := 3) rfl)) ?_
   have H345 := H
   obtain ⟨x346, e347, hF⟩ := zD hF
   refine zV rfl rfl (zU en63 rfl) (F_ref6_outside_w p0.Op 1 6 _ e347 _ _ _ (H.enter [] [] (by decide) rfl)) ?_
   rintro _ w348 ⟨rfl, G349⟩
   have H := H345.step (G349.only : Only [] _ _)
   refine ⟨_, rfl, ?_⟩
   refine zH (yI (v := .bool x346) rfl rfl) ?_
   obtain rfl := someI hF
   exact (zF (zA (meet ⟨(), (zK rfl zL), H.pick [0, 1] (by decide)⟩)))
  have hF := zN c344 hF
  refine yD ?_
  refine yD ?_
  refine yD ?_
  refine zH (yE (v := .bool false) rfl rfl) ?_
  obtain rfl := someI hF
  exact (zF (zA (meet ⟨(), (zK rfl zL), H.pick [0, 1] (by decide)⟩)))
 rintro _ ρ w342 H
 have hF := hK343
 refine zW (b := g341) rfl (fun c350 => ?_) (fun c350 => ?_)
 ·have hF := zO c350 hF
  refine zC fun K351 hK351 => ?_
  refine zB ?_
  refine zI (.int .i64 7) ?_
  refine (zF (zA (hK351 _ _ ?_)))
  obtain rfl := someI hF
  refine (zZ (zY (post1 (v1 := .int .i64 7) rfl rfl ?_)))
  exact ⟨rfl, H.pick [] (by decide)⟩
 have hF := zN c350 hF
 refine (yA (zA (hK334 _ _ ?_)))
 refine zC fun K363 hK363 => ?_
 obtain ⟨g370, hF, hK372⟩ := zD hF
 refine yL [106, 107, 108, 109, 110, 111] (fun (g : Unit) => [(111, .bool g370)]) (fun g wl => Hd O w wl S [.fz (.sl rCond v1 p0.Kids), .blk b4 [.int .i64 p0.Kind, .string (bs p0.Name), .string (bs p0.Other), .int .i64 p0.Op, .int .i64 p0.N, .int .i64 p0.Frames, v1] 54]) ?_ ?_
 ·skip
  refine zB ?_
  refine zM (.bool x30) ?_
  refine yK (b := x30) rfl rfl rfl (fun c373 => ?_) (fun c373 => ?_)
  ·have hF := zO c373 hF
   refine zH (fa54_5 rfl) ?_
   refine zH (zT one3 rfl (Cells.get (Blk.cells (H.item (i := 1) rfl)) (i := 5) rfl)) ?_
   have H374 := H
   obtain ⟨x375, e376, hF⟩ := zD hF
   refine zV rfl rfl (zU en63 rfl) (F_ref6_outside_w p0.Frames 1 4096 _ e376 _ _ _ (H.enter [] [] (by decide) rfl)) ?_
   rintro _ w377 ⟨rfl, G378⟩
   have H := H374.step (G378.only : Only [] _ _)
   refine ⟨_, rfl, ?_⟩
   refine zH (yI (v := .bool x375) rfl rfl) ?_
   obtain rfl := someI hF
   exact (zF (zA (meet ⟨(), (zK rfl zL), H.pick [0, 1] (by decide)⟩)))
  have hF := zN c373 hF
  refine yD ?_
  refine yD ?_
  refine yD ?_
  refine zH (yE (v := .bool false) rfl rfl) ?_
  obtain rfl := someI hF
  exact (zF (zA (meet ⟨(), (zK rfl zL), H.pick [0, 1] (by decide)⟩)))
 rintro _ ρ w371 H
 have hF := hK372
 refine zW (b := g370) rfl (fun c379 => ?_) (fun c379 => ?_)
 ·have hF := zO c379 hF
  refine zC fun K380 hK380 => ?_
  refine zB ?_
  refine zI (.int .i64 9) ?_
  refine (zF (zA (hK380 _ _ ?_)))
  obtain rfl := someI hF
  refine (zZ (zY (post1 (v1 := .int .i64 9) rfl rfl ?_)))
  exact ⟨rfl, H.pick [] (by decide)⟩
 have hF := zN c379 hF
 refine (yA (zA (hK363 _ _ ?_)))
 obtain ⟨k413, ek414, hF⟩ := joinO_some hF
 refine yL [2, 112, 113, 114, 115, 116, 117, 118, 119, 120, 121, 122, 123, 124, 125, 126] (fun (g : Unit) => []) (fun g wl => Hd O w wl S [.fz (.sl rCond v1 p0.Kids), .blk b4 [.int .i64 p0.Kind, .string (bs p0.Name), .string (bs p0.Other), .int .i64 p0.Op, .int .i64 p0.N, .int .i64 p0.Frames, v1] 54] ∧ k413 () = some r) ?_ ?_
 ·skip
  refine zC fun K415 hK415 => ?_
  refine zB ?_
  refine zH (fa54_0 rfl) ?_
  refine zH (zT one3 rfl (Cells.get (Blk.cells (H.item (i := 1) rfl)) (i := 0) rfl)) ?_
  refine (zF (zA (hK415 _ _ ?_)))
  refine yJ ?_
  obtain ⟨g422, hF, hK424⟩ := zD hF
  refine yL [114, 115, 116] (fun (g : Unit) => [(114, .bool g422)]) (fun g wl => Hd O w wl S [.fz (.sl rCond v1 p0.Kids), .blk b4 [.int .i64 p0.Kind, .string (bs p0.Name), .string (bs p0.Other), .int .i64 p0.Op, .int .i64 p0.N, .int .i64 p0.Frames, v1] 54]) ?_ ?_
  ·skip
   refine zC fun K425 hK425 => ?_
   refine zB ?_
   obtain ⟨x426, e427, hF⟩ := zG hF
   refine zH (zS (yP (a := p0.Kind) (b := 3) rfl rfl) e427) ?_
   refine zI (.bool x426) ?_
   refine (zF (zA (hK425 _ _ ?_)))
   refine zW (b := x426) rfl (fun c428 => ?_) (fun c428 => ?_)
   ·have hF := zO c428 hF
    obtain rfl := someI hF
    exact (yA (zA (meet ⟨(), (zK rfl zL), H.pick [0, 1] (by decide)⟩)))
   have hF := zN c428 hF
   refine zB ?_
   obtain ⟨x429, e430, hF⟩ := zG hF
   refine zH (zS (yP (a := p0.Kind) (b := 5) rfl rfl) e430) ?_
   refine zI (.bool x429) ?_
   obtain rfl := someI hF
   exact (zF (zA (meet ⟨(), (zK rfl zL), H.pick [0, 1] (by decide)⟩)))
  rintro _ ρ w423 H
  have hF := hK424
  refine zW (b := g422) rfl (fun c431 => ?_) (fun c431 => ?_)
  ·have hF := zO c431 hF
   refine zC fun K432 hK432 => ?_
   refine zB ?_
   refine zH (fa54_4 rfl) ?_
   refine zH (zT one3 rfl (Cells.get (Blk.cells (H.item (i := 1) rfl)) (i := 4) rfl)) ?_
   have H433 := H
   obtain ⟨x434, e435, hF⟩ := zD hF
   refine zV rfl rfl (zU en63 rfl) (F_ref6_outside_w p0.N (-1125899906842624) 1125899906842624 _ e435 _ _ _ (H.enter [] [] (by decide) rfl)) ?_
   rintro _ w436 ⟨rfl, G437⟩
   have H := H433.step (G437.only : Only [] _ _)
   refine ⟨_, rfl, ?_⟩
   refine (zF (zA (hK432 _ _ ?_)))
   refine zW (b := x434) rfl (fun c438 => ?_) (fun c438 => ?_)
   ·have hF := zO c438 hF
    refine zC fun K439 hK439 => ?_
    refine zB ?_
    refine zI (.int .i64 9) ?_
    refine (zF (zA (hK439 _ _ ?_)))
    obtain rfl := someI hF
    refine (zZ (yF (zY (post1 (v1 := .int .i64 9) rfl rfl ?_))))
    exact ⟨rfl, H.pick [] (by decide)⟩
   have hF := zN c438 hF
   exact (yA (yR (zA (meet ⟨(), zL, ⟨H.pick [0, 1] (by decide), hF⟩⟩))))
  have hF := zN c431 hF
  refine zC fun K440 hK440 => ?_
  refine zB ?_
  obtain ⟨x441, e442, hF⟩ := zG hF
  refine zH (zS (yP (a := p0.Kind) (b := 13) rfl rfl) e442) ?_
  refine zI (.bool x441) ?_
  refine (zF (zA (hK440 _ _ ?_)))
  refine zW (b := x441) rfl (fun c443 => ?_) (fun c443 => ?_)
  ·have hF := zO c443 hF
   refine zC fun K444 hK444 => ?_
   refine zB ?_
   refine zH (fa54_4 rfl) ?_
   refine zH (zT one3 rfl (Cells.get (Blk.cells (H.item (i := 1) rfl)) (i := 4) rfl)) ?_
   refine zH (fa54_5 rfl) ?_
   refine zH (zT one3 rfl (Cells.get (Blk.cells (H.item (i := 1) rfl)) (i := 5) rfl)) ?_
   have H445 := H
   obtain ⟨x446, e447, hF⟩ := zD hF
   refine zV rfl rfl (zU en63 rfl) (F_ref6_outside_w p0.N 1 p0.Frames _ e447 _ _ _ (H.enter [] [] (by decide) rfl)) ?_
   rintro _ w448 ⟨rfl, G449⟩
   have H := H445.step (G449.only : Only [] _ _)
   refine ⟨_, rfl, ?_⟩
   refine (zF (zA (hK444 _ _ ?_)))
   refine zW (b := x446) rfl (fun c450 => ?_) (fun c450 => ?_)
   ·have hF := zO c450 hF
    refine zC fun K451 hK451 => ?_
    refine zB ?_
    refine zI (.int .i64 9) ?_
    refine (zF (zA (hK451 _ _ ?_)))
    obtain rfl := someI hF
    refine (zZ (yF (zY (post1 (v1 := .int .i64 9) rfl rfl ?_))))
    exact ⟨rfl, H.pick [] (by decide)⟩
   have hF := zN c450 hF
   exact (yA (yR (zA (meet ⟨(), zL, ⟨H.pick [0, 1] (by decide), hF⟩⟩))))
  have hF := zN c443 hF
  exact (yA (yR (zA (meet ⟨(), zL, ⟨H.pick [0, 1] (by decide), hF⟩⟩))))
 rintro _ ρ w412 ⟨H, hF⟩
 have hF := join_body ek414 hF
 refine zC fun K462 hK462 => ?_
 obtain ⟨g468, hF, hK470⟩ := zD hF
 refine yL [127, 128, 129, 130, 131, 132, 133, 134] (fun (g : Unit) => [(134, .bool g468)]) (fun g wl => Hd O w wl S []) ?_ ?_
 ·skip
  refine zB ?_
  refine zH (fa54_0 rfl) ?_
  refine zH (zT one3 rfl (Cells.get (Blk.cells (H.item (i := 1) rfl)) (i := 0) rfl)) ?_
  obtain ⟨x471, e472, hF⟩ := zG hF
  refine zH (zS (yP (a := p0.Kind) (b := 5) rfl rfl) e472) ?_
  refine yK (b := x471) rfl rfl rfl (fun c473 => ?_) (fun c473 => ?_)
  ·have hF := zO c473 hF
   refine zH (fa54_4 rfl) ?_
   refine zH (zT one3 rfl (Cells.get (Blk.cells (H.item (i := 1) rfl)) (i := 4) rfl)) ?_
   obtain ⟨x474, e475, hF⟩ := zG hF
   refine zH (zS (xZ (a := p0.N) (b := 0) rfl rfl) e475) ?_
   refine zH (yI (v := .bool x474) rfl rfl) ?_
   obtain rfl := someI hF
   exact (zF (zA (meet ⟨(), (zK rfl zL), H.pick [] (by decide)⟩)))
  have hF := zN c473 hF
  refine yD ?_
  refine yD ?_
  refine yD ?_
  refine zH (yE (v := .bool false) rfl rfl) ?_
  obtain rfl := someI hF
  exact (zF (zA (meet ⟨(), (zK rfl zL), H.pick [] (by decide)⟩)))
 rintro _ ρ w469 H
 have hF := hK470
 refine zW (b := g468) rfl (fun c476 => ?_) (fun c476 => ?_)
 ·have hF := zO c476 hF
  refine zC fun K477 hK477 => ?_
  refine zB ?_
  refine zI (.int .i64 9) ?_
  refine (zF (zA (hK477 _ _ ?_)))
  obtain rfl := someI hF
  refine (zZ (zY (post1 (v1 := .int .i64 9) rfl rfl ?_)))
  exact ⟨rfl, H.pick [] (by decide)⟩
 have hF := zN c476 hF
 refine (yA (zA (hK462 _ _ ?_)))
 refine zC fun K478 hK478 => ?_
 refine zB ?_
 refine zI (.int .i64 0) ?_
 refine (zF (zA (hK478 _ _ ?_)))
 obtain rfl := someI hF
 refine (zZ (post1 (v1 := .int .i64 0) rfl rfl ?_))
 exact ⟨rfl, H.pick [] (by decide)⟩
abbrev S_ref6_nodesFault (f : Cond → Option Int) : Prop := ∀ (p0 : Cond) (v1 : Value) (r : Int) (_ : f p0 = some r) (O S : List Nat) (w : World) (_ : Hd O w w S [.fz (.sl rCond v1 p0.Kids)]),
  Calls Tryz.prog 114 ([.agg [.int .i64 p0.Kind, .string (bs p0.Name), .string (bs p0.Other), .int .i64 p0.Op, .int .i64 p0.N, .int .i64 p0.Frames, v1].toArray] : List Value).toArray w fun e w' => e = .returned (.int .i64 r) ∧ Hd O w w' S []
set_option maxHeartbeats 4000000 in
theorem F_ref6_nodesFault_B_w (rfI : Cond → Option Int) (rhI : S_ref6_nodesFault rfI) (p0 : Cond) (v1 : Value) (r : Int) (hF : F_ref6_nodesFault_B rfI p0 = some r) (O S : List Nat) (w : World) (H : Hd O w w S [.fz (.sl rCond v1 p0.Kids)]) :
  Calls Tryz.prog 114 ([.agg [.int .i64 p0.Kind, .string (bs p0.Name), .string (bs p0.Other), .int .i64 p0.Op, .int .i64 p0.N, .int .i64 p0.Frames, v1].toArray] : List Value).toArray w fun e w' => e = .returned (.int .i64 r) ∧ Hd O w w' S [] := by
 unfold F_ref6_nodesFault_B at hF
 refine yB 25 Tryz.func114 rfl rfl rfl ?_
 refine zC fun K3 hK3 => ?_
 refine zB ?_
 refine yX rfl rfl (Lx_box (cs := [.int .i64 p0.Kind, .string (bs p0.Name), .string (bs p0.Other), .int .i64 p0.Op, .int .i64 p0.N, .int .i64 p0.Frames, v1]) rfl H) ?_
 rintro _ w6 ⟨b4, rfl, H⟩
 refine zI (.int .i64 0) ?_
 refine (zF (zA (hK3 _ _ ?_)))
 refine zC fun K7 hK7 => ?_
 refine zB ?_
 refine zH (yQ (yM (cs := [.int .i64 p0.Kind, .string (bs p0.Name), .string (bs p0.Other), .int .i64 p0.Op, .int .i64 p0.N, .int .i64 p0.Frames, v1]) agg54 rfl sz54 rfl (Blk.cells (H.item (i := 1) rfl))) rfl) ?_
 have H8 := H
 obtain ⟨x9, e10, hF⟩ := zD hF
 refine zV rfl rfl (zU en158 rfl) (F_ref6_nodeFault_w p0 v1 _ e10 _ _ _ (H.enter [] [0] (by decide) rfl)) ?_
 rintro _ w11 ⟨rfl, G12⟩
 have H := H8.step (G12.only : Only [] _ _)
 refine ⟨_, rfl, ?_⟩
 refine zI (.int .i64 x9) ?_
 refine (zF (zA (hK7 _ _ ?_)))
 obtain ⟨g166, hF, hK168⟩ := zD hF
 refine yL [3, 4, 7, 8, 9, 10, 11, 12, 13, 14, 15, 16, 17, 18, 19, 20, 21, 22, 23] (fun (g : Unit) => [(3, .int .i64 g166)]) (fun g wl => Hd O w wl S []) ?_ ?_
 ·skip
  refine zC fun K169 hK169 => ?_
  refine zB ?_
  refine zI (.int .i64 0) ?_
  refine (zF (zA (hK169 _ _ ?_)))
  refine yJ ?_
  unfold F_ref6_nodesFault_B_L1 at hF
  obtain ⟨B318, n319, eB320, hF⟩ := yY hF
  refine xK [3, 4, 7, 8, 9, 10, 11, 12, 13, 14, 15, 16, 17, 18, 19, 20, 21, 22, 23] (fun (g : Nat × Int × Int) => [(3, .int .i64 g.2.1), (4, .int .i64 g.2.2)]) (fun g wl => Hd O w wl S [.fz (.sl rCond v1 p0.Kids), .blk b4 [.int .i64 p0.Kind, .string (bs p0.Name), .string (bs p0.Other), .int .i64 p0.Op, .int .i64 p0.N, .int .i64 p0.Frames, v1] 54] ∧ loopN B318 g.1 (g.2.1, g.2.2) = some g166) (fun g => g.1) (n319, x9, 0) (zK rfl (zK rfl zL)) ⟨H.pick [0, 1] (by decide), hF⟩ ?_
  clear H hF
  rintro ⟨n319, g316, g317⟩ ρ w322 ⟨H, hF⟩
  obtain ⟨n323, rfl, hF⟩ := xE hF
  have hF := xC eB320 hF
  refine zC fun K338 hK338 => ?_
  obtain ⟨g349, hF, hK351⟩ := zD hF
  refine yL [7, 8, 9, 10, 11, 12, 13, 14, 15] (fun (g : Unit) => [(15, .bool g349)]) (fun g wl => Hd O w wl S [.fz (.sl rCond v1 p0.Kids), .blk b4 [.int .i64 p0.Kind, .string (bs p0.Name), .string (bs p0.Other), .int .i64 p0.Op, .int .i64 p0.N, .int .i64 p0.Frames, v1] 54]) ?_ ?_
  ·skip
   refine zB ?_
   refine zM (.int .i64 g317) ?_
   refine zH (fa54_6 rfl) ?_
   refine zH (zT one52 rfl (Cells.get (Blk.cells (H.item (i := 1) rfl)) (i := 6) rfl)) ?_
   obtain ⟨x352, e353, hF⟩ := zG hF
   obtain ⟨a354, c355, q356⟩ := SlF.len ((H.item (i := 0) rfl))
   refine zH (yQ (Do_len u52 q356) (congrArg (Value.int .i64) e353)) ?_
   obtain ⟨x357, e358, hF⟩ := zG hF
   refine zH (zS (xZ (a := g317) (b := x352) rfl rfl) e358) ?_
   refine yK (b := x357) rfl rfl rfl (fun c359 => ?_) (fun c359 => ?_)
   ·have hF := zO c359 hF
    refine zM (.int .i64 g316) ?_
    obtain ⟨x360, e361, hF⟩ := zG hF
    refine zH (zS (yP (a := g316) (b := 0) rfl rfl) e361) ?_
    refine zH (yI (v := .bool x360) rfl rfl) ?_
    obtain rfl := someI hF
    exact (zF (zA (meet ⟨(), (zK rfl zL), H.pick [0, 1] (by decide)⟩)))
   have hF := zN c359 hF
   refine yD ?_
   refine yD ?_
   refine zH (yE (v := .bool false) rfl rfl) ?_
   obtain rfl := someI hF
   exact (zF (zA (meet ⟨(), (zK rfl zL), H.pick [0, 1] (by decide)⟩)))
  rintro _ ρ w350 H
  have hF := hK351
  refine zW (b := g349) rfl (fun c362 => ?_) (fun c362 => ?_)
  ·have hF := zO c362 hF
   refine (yA (zA (hK338 _ _ ?_)))
   refine zC fun K383 hK383 => ?_
   refine yJ ?_
   refine zB ?_
   refine zH (fa54_6 rfl) ?_
   refine zH (zT one52 rfl (Cells.get (Blk.cells (H.item (i := 1) rfl)) (i := 6) rfl)) ?_
   refine zM (.int .i64 g317) ?_
   obtain ⟨x384, e385, hF⟩ := zD hF
   obtain ⟨b386, o387, c388, cs389, q390, h393, h391, h392, h394⟩ := rd_at (H.item (i := 0) rfl) e385
   obtain ⟨v395, rfl, h396⟩ := xX h393
   have H := H.fzs [.at b386 (o387 + g317.toNat * 7) _, .sl rCond v395 x384.Kids] ⟨⟨h391, h392, h394⟩, h396, trivial⟩
   refine zH (Do_idx u52 sz54 q390 rfl (yU e385).1 (yU e385).2.1 rfl rfl) ?_
   refine zH (yQ (yM (cs := [.int .i64 x384.Kind, .string (bs x384.Name), .string (bs x384.Other), .int .i64 x384.Op, .int .i64 x384.N, .int .i64 x384.Frames, v395]) agg54 rfl sz54 rfl (H.item (i := 2) rfl).2.2) rfl) ?_
   have H399 := H
   obtain ⟨x400, e401, hF⟩ := zD hF
   refine zV rfl rfl (zU en114 rfl) (rhI x384 v395 _ e401 _ _ _ (H.enter [] [3] (by decide) rfl)) ?_
   rintro _ w402 ⟨rfl, G403⟩
   have H := H399.step (G403.only : Only [] _ _)
   refine ⟨_, rfl, ?_⟩
   refine zI (.int .i64 x400) ?_
   refine (zF (yR (zA (hK383 _ _ ?_))))
   refine zB ?_
   refine zM (.int .i64 g317) ?_
   obtain ⟨x404, e405, hF⟩ := zG hF
   refine zH (wC (a := g317) (b := 1) rfl rfl e405) ?_
   refine zI (.int .i64 x404) ?_
   exact (zF (zA (meet ⟨(n323, x400, x404), (zK rfl (zK rfl zL)), ⟨H.pick [0, 1] (by decide), hF⟩, Nat.lt_succ_self _⟩)))
  have hF := zN c362 hF
  obtain rfl := someI hF
  exact (xW (yT (yT (xG (zA (meet ⟨(), (zK rfl zL), H.pick [] (by decide)⟩))))))
 rintro _ ρ w167 H
 have hF := hK168
 refine zC fun K406 hK406 => ?_
 refine zB ?_
 refine zM (.int .i64 g166) ?_
 refine zI (.int .i64 g166) ?_
 refine (zF (zA (hK406 _ _ ?_)))
 obtain rfl := someI hF
 refine (zZ (post1 (v1 := .int .i64 g166) rfl rfl ?_))
 exact ⟨rfl, H.pick [] (by decide)⟩
theorem F_ref6_nodesFault_s : S_ref6_nodesFault (F_ref6_nodesFault) := by
 have h : ∀ n, S_ref6_nodesFault (F_ref6_nodesFault_R n) := by
  intro n
  induction n with
  | zero => intro p0 v1 r hF; cases hF
  | succ n ih => intro p0 v1 r hF; exact F_ref6_nodesFault_B_w (F_ref6_nodesFault_R n) ih p0 v1 r hF
 exact h FU
set_option maxHeartbeats 4000000 in
theorem F_ref6_CheckCond_w (p0 : Cond) (v1 : Value) (r : Int) (hF : F_ref6_CheckCond p0 = some r) (O S : List Nat) (w : World) (H : Hd O w w S [.fz (.sl rCond v1 p0.Kids)]) :
  Calls Tryz.prog 58 ([.agg [.int .i64 p0.Kind, .string (bs p0.Name), .string (bs p0.Other), .int .i64 p0.Op, .int .i64 p0.N, .int .i64 p0.Frames, v1].toArray] : List Value).toArray w fun e w' => e = .returned (.int .i64 r) ∧ Hd O w w' S [] := by
 unfold F_ref6_CheckCond at hF
 refine yB 12 Tryz.func58 rfl rfl rfl ?_
 refine zC fun K3 hK3 => ?_
 refine zB ?_
 refine yX rfl rfl (Lx_box (cs := [.int .i64 p0.Kind, .string (bs p0.Name), .string (bs p0.Other), .int .i64 p0.Op, .int .i64 p0.N, .int .i64 p0.Frames, v1]) rfl H) ?_
 rintro _ w6 ⟨b4, rfl, H⟩
 refine zI (.int .i64 0) ?_
 refine (zF (zA (hK3 _ _ ?_)))
 refine zC fun K25 hK25 => ?_
 obtain ⟨g39, hF, hK41⟩ := zD hF
 refine yL [3, 4, 5, 6, 7, 8, 9] (fun (g : Unit) => [(9, .bool g39)]) (fun g wl => Hd O w wl S [.fz (.sl rCond v1 p0.Kids), .blk b4 [.int .i64 p0.Kind, .string (bs p0.Name), .string (bs p0.Other), .int .i64 p0.Op, .int .i64 p0.N, .int .i64 p0.Frames, v1] 54]) ?_ ?_
 ·skip
  refine zB ?_
  refine zH (yQ (yM (cs := [.int .i64 p0.Kind, .string (bs p0.Name), .string (bs p0.Other), .int .i64 p0.Op, .int .i64 p0.N, .int .i64 p0.Frames, v1]) agg54 rfl sz54 rfl (Blk.cells (H.item (i := 1) rfl))) rfl) ?_
  have H42 := H
  obtain ⟨x43, e44, hF⟩ := zD hF
  refine zV rfl rfl (zU en112 rfl) (F_ref6_nodes_s p0 200 v1 _ e44 _ _ _ (H.enter [] [0] (by decide) rfl)) ?_
  rintro _ w45 ⟨rfl, G46⟩
  have H := H42.step (G46.only : Only [] _ _)
  refine ⟨_, rfl, ?_⟩
  obtain ⟨x47, e48, hF⟩ := zG hF
  refine zH (zS (Do_gtr (a := x43) (b := 200) rfl rfl) e48) ?_
  refine yK (b := x47) rfl rfl rfl (fun c49 => ?_) (fun c49 => ?_)
  ·have hF := zO c49 hF
   refine yD ?_
   refine yD ?_
   refine zH (yI (v := .bool true) rfl rfl) ?_
   obtain rfl := someI hF
   exact (zF (zA (meet ⟨(), (zK rfl zL), H.pick [0, 1] (by decide)⟩)))
  have hF := zN c49 hF
  refine zH (yQ (yM (cs := [.int .i64 p0.Kind, .string (bs p0.Name), .string (bs p0.Other), .int .i64 p0.Op, .int .i64 p0.N, .int .i64 p0.Frames, v1]) agg54 rfl sz54 rfl (Blk.cells (H.item (i := 1) rfl))) rfl) ?_
  have H50 := H
  obtain ⟨x51, e52, hF⟩ := zD hF
  refine zV rfl rfl (zU en113 rfl) (F_ref6_deeper_s p0 20 v1 _ e52 _ _ _ (H.enter [] [0] (by decide) rfl)) ?_
  rintro _ w53 ⟨rfl, G54⟩
  have H := H50.step (G54.only : Only [] _ _)
  refine ⟨_, rfl, ?_⟩
  refine zH (yE (v := .bool x51) rfl rfl) ?_
  obtain rfl := someI hF
  exact (zF (zA (meet ⟨(), (zK rfl zL), H.pick [0, 1] (by decide)⟩)))
 rintro _ ρ w40 H
 have hF := hK41
 refine zW (b := g39) rfl (fun c55 => ?_) (fun c55 => ?_)
 ·have hF := zO c55 hF
  refine zC fun K56 hK56 => ?_
  refine zB ?_
  refine zI (.int .i64 3) ?_
  refine (zF (zA (hK56 _ _ ?_)))
  obtain rfl := someI hF
  refine (zZ (zY (post1 (v1 := .int .i64 3) rfl rfl ?_)))
  exact ⟨rfl, H.pick [] (by decide)⟩
 have hF := zN c55 hF
 refine (yA (zA (hK25 _ _ ?_)))
 refine zC fun K57 hK57 => ?_
 refine zB ?_
 refine zH (yQ (yM (cs := [.int .i64 p0.Kind, .string (bs p0.Name), .string (bs p0.Other), .int .i64 p0.Op, .int .i64 p0.N, .int .i64 p0.Frames, v1]) agg54 rfl sz54 rfl (Blk.cells (H.item (i := 1) rfl))) rfl) ?_
 have H58 := H
 obtain ⟨x59, e60, hF⟩ := zD hF
 refine zV rfl rfl (zU en114 rfl) (F_ref6_nodesFault_s p0 v1 _ e60 _ _ _ (H.enter [] [0] (by decide) rfl)) ?_
 rintro _ w61 ⟨rfl, G62⟩
 have H := H58.step (G62.only : Only [] _ _)
 refine ⟨_, rfl, ?_⟩
 refine zI (.int .i64 x59) ?_
 refine (zF (zA (hK57 _ _ ?_)))
 obtain rfl := someI hF
 refine (zZ (post1 (v1 := .int .i64 x59) rfl rfl ?_))
 exact ⟨rfl, H.pick [] (by decide)⟩
abbrev S_ref6_inward (f : Cond → Bool → Option Cond) : Prop := ∀ (p0 : Cond) (p1 : Bool) (v1 : Value) (r : Cond) (_ : f p0 p1 = some r) (O S : List Nat) (w : World) (_ : Hd O w w S [.fz (.sl rCond v1 p0.Kids)]),
  Calls Tryz.prog 59 ([.agg [.int .i64 p0.Kind, .string (bs p0.Name), .string (bs p0.Other), .int .i64 p0.Op, .int .i64 p0.N, .int .i64 p0.Frames, v1].toArray, .bool p1] : List Value).toArray w fun e w' => ∃ u3, e = .returned (.agg [.int .i64 r.Kind, .string (bs r.Name), .string (bs r.Other), .int .i64 r.Op, .int .i64 r.N, .int .i64 r.Frames, u3].toArray) ∧ Hd O w w' S [.fz (.sl rCond u3 r.Kids)]
set_option maxHeartbeats 4000000 in
set_option maxRecDepth 100000 in
theorem F_ref6_contrary_w (p0 : Int) (r : Int) (hF : F_ref6_contrary p0 = some r) (O S : List Nat) (w : World) (H : Hd O w w S []) :
  Calls Tryz.prog 115 ([.int .i64 p0] : List Value).toArray w fun e w' => e = .returned (.int .i64 r) ∧ Hd O w w' S [] := by
 unfold F_ref6_contrary at hF
 refine yB 14 Tryz.func115 rfl rfl rfl ?_
 refine zC fun K1 hK1 => ?_
 refine zB ?_
 refine zI (.int .i64 0) ?_
 refine (zF (zA (hK1 _ _ ?_)))
 refine zC fun K28 hK28 => ?_
 refine zC fun K29 hK29 => ?_
 refine zB ?_
 refine zM (.int .i64 p0) ?_
 refine (zF (zA (hK29 _ _ ?_)))
 refine yJ ?_
 refine zC fun K30 hK30 => ?_
 refine zB ?_
 obtain ⟨x31, e32, hF⟩ := zG hF
 refine zH (zS (yP (a := p0) (b := 1) rfl rfl) e32) ?_
 refine zI (.bool x31) ?_
 refine (zF (zA (hK30 _ _ ?_)))
 refine zW (b := x31) rfl (fun c33 => ?_) (fun c33 => ?_)
 ·have hF := zO c33 hF
  refine zC fun K34 hK34 => ?_
  refine zB ?_
  refine zI (.int .i64 5) ?_
  refine (zF (zA (hK34 _ _ ?_)))
  obtain rfl := someI hF
  refine (zZ (yF (zY (post1 (v1 := .int .i64 5) rfl rfl ?_))))
  exact ⟨rfl, H.pick [] (by decide)⟩
 have hF := zN c33 hF
 refine zC fun K35 hK35 => ?_
 refine zB ?_
 obtain ⟨x36, e37, hF⟩ := zG hF
 refine zH (zS (yP (a := p0) (b := 2) rfl rfl) e37) ?_
 refine zI (.bool x36) ?_
 refine (zF (zA (hK35 _ _ ?_)))
 refine zW (b := x36) rfl (fun c38 => ?_) (fun c38 => ?_)
 ·have hF := zO c38 hF
  refine zC fun K39 hK39 => ?_
  refine zB ?_
  refine zI (.int .i64 6) ?_
  refine (zF (zA (hK39 _ _ ?_)))
  obtain rfl := someI hF
  refine (zZ (yF (zY (post1 (v1 := .int .i64 6) rfl rfl ?_))))
  exact ⟨rfl, H.pick [] (by decide)⟩
 have hF := zN c38 hF
 refine zC fun K40 hK40 => ?_
 refine zB ?_
 obtain ⟨x41, e42, hF⟩ := zG hF
 refine zH (zS (yP (a := p0) (b := 3) rfl rfl) e42) ?_
 refine zI (.bool x41) ?_
 refine (zF (zA (hK40 _ _ ?_)))
 refine zW (b := x41) rfl (fun c43 => ?_) (fun c43 => ?_)
 ·have hF := zO c43 hF
  refine zC fun K44 hK44 => ?_
  refine zB ?_
  refine zI (.int .i64 4) ?_
  refine (zF (zA (hK44 _ _ ?_)))
  obtain rfl := someI hF
  refine (zZ (yF (zY (post1 (v1 := .int .i64 4) rfl rfl ?_))))
  exact ⟨rfl, H.pick [] (by decide)⟩
 have hF := zN c43 hF
 refine zC fun K45 hK45 => ?_
 refine zB ?_
 obtain ⟨x46, e47, hF⟩ := zG hF
 refine zH (zS (yP (a := p0) (b := 4) rfl rfl) e47) ?_
 refine zI (.bool x46) ?_
 refine (zF (zA (hK45 _ _ ?_)))
 refine zW (b := x46) rfl (fun c48 => ?_) (fun c48 => ?_)
 ·have hF := zO c48 hF
  refine zC fun K49 hK49 => ?_
  refine zB ?_
  refine zI (.int .i64 3) ?_
  refine (zF (zA (hK49 _ _ ?_)))
  obtain rfl := someI hF
  refine (zZ (yF (zY (post1 (v1 := .int .i64 3) rfl rfl ?_))))
  exact ⟨rfl, H.pick [] (by decide)⟩
 have hF := zN c48 hF
 refine zC fun K50 hK50 => ?_
 refine zB ?_
 obtain ⟨x51, e52, hF⟩ := zG hF
 refine zH (zS (yP (a := p0) (b := 5) rfl rfl) e52) ?_
 refine zI (.bool x51) ?_
 refine (zF (zA (hK50 _ _ ?_)))
 refine zW (b := x51) rfl (fun c53 => ?_) (fun c53 => ?_)
 ·have hF := zO c53 hF
  refine zC fun K54 hK54 => ?_
  refine zB ?_
  refine zI (.int .i64 1) ?_
  refine (zF (zA (hK54 _ _ ?_)))
  obtain rfl := someI hF
  refine (zZ (yF (zY (post1 (v1 := .int .i64 1) rfl rfl ?_))))
  exact ⟨rfl, H.pick [] (by decide)⟩
 have hF := zN c53 hF
 refine (yA (yR (zA (hK28 _ _ ?_))))
 refine zC fun K55 hK55 => ?_
 refine zB ?_
 refine zI (.int .i64 2) ?_
 refine (zF (zA (hK55 _ _ ?_)))
 obtain rfl := someI hF
 refine (zZ (post1 (v1 := .int .i64 2) rfl rfl ?_))
 exact ⟨rfl, H.pick [] (by decide)⟩
end Go.Proofs.YtnajnkghilemhaaGreatDoor.L
