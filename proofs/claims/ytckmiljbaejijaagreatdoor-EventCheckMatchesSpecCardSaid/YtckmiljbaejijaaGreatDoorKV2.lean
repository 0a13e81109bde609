/- Walks: what each function computes, for every argument; no condition but those that stand in the statements. -/
import Derived.Test.YtckmiljbaejijaaGreatDoorKV0
import Derived.Test.YtckmiljbaejijaaGreatDoorKV1
namespace Go.Proofs.YtckmiljbaejijaaGreatDoor.L
open Go.RowKit Go.OB Go.Lf
set_option maxHeartbeats 4000000 in
theorem F_ref6_words_w (r : (List Str)) (hF : F_ref6_words = some r) (O S : List Nat) (w : World) (H : Hd O w w S []) :
  Calls Tryz.prog 195 ([] : List Value).toArray w fun e w' => ∃ u1, e = .returned (u1) ∧ Hd O w w' S [.own Rp.str u1 9 r] := by
 unfold F_ref6_words at hF
 refine zY 2 Tryz.func195 rfl rfl rfl ?_
 refine zC fun K2 hK2 => ?_
 refine zB ?_
 refine zI (.slice none 0 0) ?_
 refine (zD (zA (hK2 _ _ ?_)))
 refine zC fun K3 hK3 => ?_
 refine zB ?_
 obtain ⟨x4, e5, hF⟩ := zF hF
 subst e5
 refine yZ rfl rfl (Lx_bs (r := Rp.str) (xl := [[112, 104, 97, 115, 101], [109, 111, 118, 101], [114, 117, 108, 101], [105, 102], [111, 114], [97, 110, 100], [116, 114, 117, 101], [102, 97, 108, 115, 101], [115, 116, 101, 97, 100, 121], [110, 111, 116], [102, 111, 114], [119, 105, 116, 104, 105, 110], [99, 111, 117, 110, 116], [111, 102], [114, 105, 115, 101, 115], [115, 105, 110, 99, 101]]) (cs := [.string (bs [112, 104, 97, 115, 101]), .string (bs [109, 111, 118, 101]), .string (bs [114, 117, 108, 101]), .string (bs [105, 102]), .string (bs [111, 114]), .string (bs [97, 110, 100]), .string (bs [116, 114, 117, 101]), .string (bs [102, 97, 108, 115, 101]), .string (bs [115, 116, 101, 97, 100, 121]), .string (bs [110, 111, 116]), .string (bs [102, 111, 114]), .string (bs [119, 105, 116, 104, 105, 110]), .string (bs [99, 111, 117, 110, 116]), .string (bs [111, 102]), .string (bs [114, 105, 115, 101, 115]), .string (bs [115, 105, 110, 99, 101])]) u22 el9 (by decide) (by decide) rfl (xU (vs := [.string (bs [112, 104, 97, 115, 101]), .string (bs [109, 111, 118, 101]), .string (bs [114, 117, 108, 101]), .string (bs [105, 102]), .string (bs [111, 114]), .string (bs [97, 110, 100]), .string (bs [116, 114, 117, 101]), .string (bs [102, 97, 108, 115, 101]), .string (bs [115, 116, 101, 97, 100, 121]), .string (bs [110, 111, 116]), .string (bs [102, 111, 114]), .string (bs [119, 105, 116, 104, 105, 110]), .string (bs [99, 111, 117, 110, 116]), .string (bs [111, 102]), .string (bs [114, 105, 115, 101, 115]), .string (bs [115, 105, 110, 99, 101])]) (by decide) rfl rfl ⟨rfl, rfl, rfl, rfl, rfl, rfl, rfl, rfl, rfl, rfl, rfl, rfl, rfl, rfl, rfl, rfl, trivial⟩ rfl) H ⟨[.string (bs [112, 104, 97, 115, 101])], [.string (bs [109, 111, 118, 101]), .string (bs [114, 117, 108, 101]), .string (bs [105, 102]), .string (bs [111, 114]), .string (bs [97, 110, 100]), .string (bs [116, 114, 117, 101]), .string (bs [102, 97, 108, 115, 101]), .string (bs [115, 116, 101, 97, 100, 121]), .string (bs [110, 111, 116]), .string (bs [102, 111, 114]), .string (bs [119, 105, 116, 104, 105, 110]), .string (bs [99, 111, 117, 110, 116]), .string (bs [111, 102]), .string (bs [114, 105, 115, 101, 115]), .string (bs [115, 105, 110, 99, 101])], rfl, rfl, ⟨[.string (bs [109, 111, 118, 101])], [.string (bs [114, 117, 108, 101]), .string (bs [105, 102]), .string (bs [111, 114]), .string (bs [97, 110, 100]), .string (bs [116, 114, 117, 101]), .string (bs [102, 97, 108, 115, 101]), .string (bs [115, 116, 101, 97, 100, 121]), .string (bs [110, 111, 116]), .string (bs [102, 111, 114]), .string (bs [119, 105, 116, 104, 105, 110]), .string (bs [99, 111, 117, 110, 116]), .string (bs [111, 102]), .string (bs [114, 105, 115, 101, 115]), .string (bs [115, 105, 110, 99, 101])], rfl, rfl, ⟨[.string (bs [114, 117, 108, 101])], [.string (bs [105, 102]), .string (bs [111, 114]), .string (bs [97, 110, 100]), .string (bs [116, 114, 117, 101]), .string (bs [102, 97, 108, 115, 101]), .string (bs [115, 116, 101, 97, 100, 121]), .string (bs [110, 111, 116]), .string (bs [102, 111, 114]), .string (bs [119, 105, 116, 104, 105, 110]), .string (bs [99, 111, 117, 110, 116]), .string (bs [111, 102]), .string (bs [114, 105, 115, 101, 115]), .string (bs [115, 105, 110, 99, 101])], rfl, rfl, ⟨[.string (bs [105, 102])], [.string (bs [111, 114]), .string (bs [97, 110, 100]), .string (bs [116, 114, 117, 101]), .string (bs [102, 97, 108, 115, 101]), .string (bs [115, 116, 101, 97, 100, 121]), .string (bs [110, 111, 116]), .string (bs [102, 111, 114]), .string (bs [119, 105, 116, 104, 105, 110]), .string (bs [99, 111, 117, 110, 116]), .string (bs [111, 102]), .string (bs [114, 105, 115, 101, 115]), .string (bs [115, 105, 110, 99, 101])], rfl, rfl, ⟨[.string (bs [111, 114])], [.string (bs [97, 110, 100]), .string (bs [116, 114, 117, 101]), .string (bs [102, 97, 108, 115, 101]), .string (bs [115, 116, 101, 97, 100, 121]), .string (bs [110, 111, 116]), .string (bs [102, 111, 114]), .string (bs [119, 105, 116, 104, 105, 110]), .string (bs [99, 111, 117, 110, 116]), .string (bs [111, 102]), .string (bs [114, 105, 115, 101, 115]), .string (bs [115, 105, 110, 99, 101])], rfl, rfl, ⟨[.string (bs [97, 110, 100])], [.string (bs [116, 114, 117, 101]), .string (bs [102, 97, 108, 115, 101]), .string (bs [115, 116, 101, 97, 100, 121]), .string (bs [110, 111, 116]), .string (bs [102, 111, 114]), .string (bs [119, 105, 116, 104, 105, 110]), .string (bs [99, 111, 117, 110, 116]), .string (bs [111, 102]), .string (bs [114, 105, 115, 101, 115]), .string (bs [115, 105, 110, 99, 101])], rfl, rfl, ⟨[.string (bs [116, 114, 117, 101])], [.string (bs [102, 97, 108, 115, 101]), .string (bs [115, 116, 101, 97, 100, 121]), .string (bs [110, 111, 116]), .string (bs [102, 111, 114]), .string (bs [119, 105, 116, 104, 105, 110]), .string (bs [99, 111, 117, 110, 116]), .string (bs [111, 102]), .string (bs [114, 105, 115, 101, 115]), .string (bs [115, 105, 110, 99, 101])], rfl, rfl, ⟨[.string (bs [102, 97, 108, 115, 101])], [.string (bs [115, 116, 101, 97, 100, 121]), .string (bs [110, 111, 116]), .string (bs [102, 111, 114]), .string (bs [119, 105, 116, 104, 105, 110]), .string (bs [99, 111, 117, 110, 116]), .string (bs [111, 102]), .string (bs [114, 105, 115, 101, 115]), .string (bs [115, 105, 110, 99, 101])], rfl, rfl, ⟨[.string (bs [115, 116, 101, 97, 100, 121])], [.string (bs [110, 111, 116]), .string (bs [102, 111, 114]), .string (bs [119, 105, 116, 104, 105, 110]), .string (bs [99, 111, 117, 110, 116]), .string (bs [111, 102]), .string (bs [114, 105, 115, 101, 115]), .string (bs [115, 105, 110, 99, 101])], rfl, rfl, ⟨[.string (bs [110, 111, 116])], [.string (bs [102, 111, 114]), .string (bs [119, 105, 116, 104, 105, 110]), .string (bs [99, 111, 117, 110, 116]), .string (bs [111, 102]), .string (bs [114, 105, 115, 101, 115]), .string (bs [115, 105, 110, 99, 101])], rfl, rfl, ⟨[.string (bs [102, 111, 114])], [.string (bs [119, 105, 116, 104, 105, 110]), .string (bs [99, 111, 117, 110, 116]), .string (bs [111, 102]), .string (bs [114, 105, 115, 101, 115]), .string (bs [115, 105, 110, 99, 101])], rfl, rfl, ⟨[.string (bs [119, 105, 116, 104, 105, 110])], [.string (bs [99, 111, 117, 110, 116]), .string (bs [111, 102]), .string (bs [114, 105, 115, 101, 115]), .string (bs [115, 105, 110, 99, 101])], rfl, rfl, ⟨[.string (bs [99, 111, 117, 110, 116])], [.string (bs [111, 102]), .string (bs [114, 105, 115, 101, 115]), .string (bs [115, 105, 110, 99, 101])], rfl, rfl, ⟨[.string (bs [111, 102])], [.string (bs [114, 105, 115, 101, 115]), .string (bs [115, 105, 110, 99, 101])], rfl, rfl, ⟨[.string (bs [114, 105, 115, 101, 115])], [.string (bs [115, 105, 110, 99, 101])], rfl, rfl, ⟨[.string (bs [115, 105, 110, 99, 101])], [], rfl, rfl, rfl⟩⟩⟩⟩⟩⟩⟩⟩⟩⟩⟩⟩⟩⟩⟩⟩) ?_
 rintro v7 w8 H
 refine zI v7 ?_
 refine (zD (zA (hK3 _ _ ?_)))
 obtain rfl := someI hF
 refine (yB (post1 (v1 := v7) rfl rfl ?_))
 exact ⟨v7, rfl, H.pick [0] (by decide)⟩
set_option maxHeartbeats 4000000 in
theorem F_ref6_Reserved_w (p0 : Str) (r : Bool) (hF : F_ref6_Reserved p0 = some r) (O S : List Nat) (w : World) (H : Hd O w w S []) :
  Calls Tryz.prog 151 ([.string (bs p0)] : List Value).toArray w fun e w' => e = .returned (.bool r) ∧ Hd O w w' S [] := by
 unfold F_ref6_Reserved at hF
 refine zY 18 Tryz.func151 rfl rfl rfl ?_
 refine zC fun K1 hK1 => ?_
 refine zB ?_
 refine zI (.bool false) ?_
 refine (zD (zA (hK1 _ _ ?_)))
 refine zC fun K2 hK2 => ?_
 refine zB ?_
 obtain ⟨x3, e4, hF⟩ := zG hF
 refine zZ rfl rfl (zT en195 rfl) (F_ref6_words_w _ e4 _ _ _ (H.enter [] [] (by decide) rfl)) ?_
 rintro _ w7 ⟨v5, rfl, G8⟩
 have H := H.back1 [] rfl G8
 refine ⟨_, rfl, ?_⟩
 refine zI v5 ?_
 refine (zD (zA (hK2 _ _ ?_)))
 obtain ⟨k126, ek127, hF⟩ := xQ hF
 refine yL [2, 4, 6, 7, 8, 9, 10, 11, 12, 13, 14, 15, 16, 17] (fun (g : Unit) => []) (fun g wl => Hd O w wl S [] ∧ k126 () = some r) ?_ ?_
 ·skip
  refine zC fun K128 hK128 => ?_
  refine zB ?_
  refine zI (.int .i64 0) ?_
  refine (zD (zA (hK128 _ _ ?_)))
  refine yG ?_
  unfold F_ref6_Reserved_L1 at hF
  obtain ⟨B239, n240, eB241, hF⟩ := yS hF
  refine xE [2, 4, 6, 7, 8, 9, 10, 11, 12, 13, 14, 15, 16, 17] (fun (g : Nat × Int) => [(4, .int .i64 g.2)]) (fun g wl => Hd O w wl S [.own Rp.str v5 9 x3] ∧ loopN B239 g.1 g.2 = some r) (fun g => g.1) (n240, 0) (zJ rfl zL) ⟨H.pick [0] (by decide), hF⟩ ?_
  clear H hF
  rintro ⟨n240, g238⟩ ρ w243 ⟨H, hF⟩
  obtain ⟨n244, rfl, hF⟩ := yX hF
  have hF := yY eB241 hF
  refine zC fun K254 hK254 => ?_
  refine zC fun K255 hK255 => ?_
  refine zB ?_
  refine zK (.int .i64 g238) ?_
  refine zK v5 ?_
  obtain ⟨x256, e257, hF⟩ := zF hF
  obtain ⟨a258, c259, q260⟩ := Sr.len (Sr.of_own (H.item (i := 0) rfl))
  refine zH (yN (xM u22 q260) (congrArg (Value.int .i64) e257)) ?_
  obtain ⟨x261, e262, hF⟩ := zF hF
  refine zH (zM (xI (a := g238) (b := x256) rfl rfl) e262) ?_
  refine (zD (zA (hK255 _ _ ?_)))
  refine yA (b := x261) rfl (fun c263 => ?_) (fun c263 => ?_)
  ·have hF := zQ c263 hF
   refine (zX (zA (hK254 _ _ ?_)))
   refine zC fun K280 hK280 => ?_
   refine yG ?_
   refine zC fun K281 hK281 => ?_
   refine zB ?_
   refine zK v5 ?_
   refine zK (.int .i64 g238) ?_
   obtain ⟨x282, e283, hF⟩ := zG hF
   obtain ⟨b284, c286, cs287, q288, h291, h292⟩ := own_at (H.item (i := 0) rfl) e283
   obtain rfl : cs287 = [.string (bs x282)] := h291
   refine zH (wC u22 sz9 q288 rfl (yP e283).1 (yP e283).2.1 rfl rfl) ?_
   refine zH (zO one9 rfl (Cells.get h292 (i := 0) rfl)) ?_
   refine zK (.string (bs p0)) ?_
   obtain ⟨x293, e294, hF⟩ := zF hF
   refine zH (zM (xW (s1 := x282) (s2 := p0) rfl rfl) e294) ?_
   refine (zD (zA (hK281 _ _ ?_)))
   refine yA (b := x293) rfl (fun c295 => ?_) (fun c295 => ?_)
   ·have hF := zQ c295 hF
    refine zC fun K296 hK296 => ?_
    refine zB ?_
    refine zI (.bool true) ?_
    refine (zD (zA (hK296 _ _ ?_)))
    obtain rfl := someI hF
    refine (yB (yE (zW (zW (yE (zW (post1 (v1 := .bool true) rfl rfl ?_)))))))
    exact ⟨rfl, H.pick [] (by decide)⟩
   have hF := zS c295 hF
   refine (zX (yT (zA (hK280 _ _ ?_))))
   refine zB ?_
   refine zK (.int .i64 g238) ?_
   obtain ⟨x297, e298, hF⟩ := zF hF
   refine zH (xP (a := g238) (b := 1) rfl rfl e298) ?_
   refine zI (.int .i64 x297) ?_
   exact (zD (zA (meet ⟨(n244, x297), (zJ rfl zL), ⟨H.pick [0] (by decide), hF⟩, Nat.lt_succ_self _⟩)))
  have hF := zS c263 hF
  exact (xJ (yO (yO (xB (zA (meet ⟨(), zL, ⟨H.pick [] (by decide), hF⟩⟩))))))
 rintro _ ρ w125 ⟨H, hF⟩
 have hF := wB ek127 hF
 refine zC fun K299 hK299 => ?_
 refine zB ?_
 refine zI (.bool false) ?_
 refine (zD (zA (hK299 _ _ ?_)))
 obtain rfl := someI hF
 refine (yB (post1 (v1 := .bool false) rfl rfl ?_))
 exact ⟨rfl, H.pick [] (by decide)⟩
set_option maxHeartbeats 4000000 in
set_option maxRecDepth 100000 in
theorem F_ref6_IsName_w (p0 : Str) (r : Bool) (hF : F_ref6_IsName p0 = some r) (O S : List Nat) (w : World) (H : Hd O w w S []) :
  Calls Tryz.prog 90 ([.string (bs p0)] : List Value).toArray w fun e w' => e = .returned (.bool r) ∧ Hd O w w' S [] := by
 unfold F_ref6_IsName at hF
 refine zY 49 Tryz.func90 rfl rfl rfl ?_
 refine zC fun K1 hK1 => ?_
 refine zB ?_
 refine zI (.bool false) ?_
 refine (zD (zA (hK1 _ _ ?_)))
 obtain ⟨k175, ek176, hF⟩ := xQ hF
 refine yL [2, 3, 4, 5, 6, 7, 8, 9, 10, 11, 12, 13, 14, 15, 16, 17, 18, 19, 20, 21, 22, 23, 24, 25, 26, 27, 28, 29, 30, 31, 32, 33, 34, 35, 36] (fun (g : Unit) => []) (fun g wl => Hd O w wl S [] ∧ k175 () = some r) ?_ ?_
 ·skip
  refine zC fun K177 hK177 => ?_
  refine zB ?_
  refine zI (.int .i64 0) ?_
  refine (zD (zA (hK177 _ _ ?_)))
  refine yG ?_
  unfold F_ref6_IsName_L1 at hF
  obtain ⟨B344, n345, eB346, hF⟩ := yS hF
  refine xE [2, 3, 4, 5, 6, 7, 8, 9, 10, 11, 12, 13, 14, 15, 16, 17, 18, 19, 20, 21, 22, 23, 24, 25, 26, 27, 28, 29, 30, 31, 32, 33, 34, 35, 36] (fun (g : Nat × Int) => [(3, .int .i64 g.2)]) (fun g wl => Hd O w wl S [] ∧ loopN B344 g.1 g.2 = some r) (fun g => g.1) (n345, 0) (zJ rfl zL) ⟨H.pick [] (by decide), hF⟩ ?_
  clear H hF
  rintro ⟨n345, g343⟩ ρ w348 ⟨H, hF⟩
  obtain ⟨n349, rfl, hF⟩ := yX hF
  have hF := yY eB346 hF
  refine zC fun K356 hK356 => ?_
  refine zC fun K357 hK357 => ?_
  refine zB ?_
  refine zK (.int .i64 g343) ?_
  refine zK (.string (bs p0)) ?_
  obtain ⟨x358, e359, hF⟩ := zF hF
  refine zH (yN (Do_slen (s1 := p0) u9 rfl) (congrArg (Value.int .i64) e359)) ?_
  obtain ⟨x360, e361, hF⟩ := zF hF
  refine zH (zM (xI (a := g343) (b := x358) rfl rfl) e361) ?_
  refine (zD (zA (hK357 _ _ ?_)))
  refine yA (b := x360) rfl (fun c362 => ?_) (fun c362 => ?_)
  ·have hF := zQ c362 hF
   refine (zX (zA (hK356 _ _ ?_)))
   refine zC fun K396 hK396 => ?_
   refine yG ?_
   refine zC fun K397 hK397 => ?_
   refine zB ?_
   refine zK (.string (bs p0)) ?_
   refine zK (.int .i64 g343) ?_
   obtain ⟨x398, e399, hF⟩ := zG hF
   refine zH (Do_sidx (s1 := p0) (q := g343) u9 rfl rfl e399) ?_
   refine zI (.int .u8 x398) ?_
   refine (zD (zA (hK397 _ _ ?_)))
   obtain ⟨g425, hF, hK427⟩ := zG hF
   refine yL [14, 15, 16, 17, 18, 19, 20, 21, 22, 23, 24, 25, 26, 27, 28, 29, 30, 31, 32, 33, 34, 35, 36] (fun (g : Unit) => [(36, .bool g425)]) (fun g wl => Hd O w wl S []) ?_ ?_
   ·skip
    refine zB ?_
    refine zK (.int .u8 x398) ?_
    obtain ⟨x428, e429, hF⟩ := zF hF
    refine zH (zM (Do_geq (a := x398) (b := 97) rfl rfl) e429) ?_
    obtain ⟨j430, hF, hK431⟩ := zG hF
    refine RL_cutS 4 [16, 17, 18, 19] [(19, .bool j430)] (fun wl => Hd O w wl S []) ?_ ?_
    ·skip
     refine yK (b := x428) rfl rfl rfl (fun c433 => ?_) (fun c433 => ?_)
     ·have hF := zQ c433 hF
      refine zK (.int .u8 x398) ?_
      obtain ⟨x434, e435, hF⟩ := zF hF
      refine zH (zM (Do_leq (a := x398) (b := 122) rfl rfl) e435) ?_
      refine zH (yI (v := .bool x434) rfl rfl) ?_
      obtain rfl := someI hF
      exact zD (zA (meet ⟨(zJ rfl zL), H.pick [] (by decide)⟩))
     have hF := zS c433 hF
     refine yC ?_
     refine yC ?_
     refine zH (yF (v := .bool false) rfl rfl) ?_
     obtain rfl := someI hF
     exact zD (zA (meet ⟨(zJ rfl zL), H.pick [] (by decide)⟩))
    rintro ρ w432 H
    have hF := hK431
    refine yK (b := j430) rfl rfl rfl (fun c436 => ?_) (fun c436 => ?_)
    ·have hF := zQ c436 hF
     refine yC ?_
     refine yC ?_
     refine yC ?_
     refine yC ?_
     refine yC ?_
     refine yC ?_
     refine yC ?_
     refine yC ?_
     refine yC ?_
     refine yC ?_
     refine yC ?_
     refine yC ?_
     refine yC ?_
     refine yC ?_
     refine zH (yI (v := .bool true) rfl rfl) ?_
     refine zH (wJ (p := true) rfl) ?_
     obtain rfl := someI hF
     exact (zD (zA (meet ⟨(), (zJ rfl zL), H.pick [] (by decide)⟩)))
    have hF := zS c436 hF
    refine zK (.int .i64 g343) ?_
    obtain ⟨x437, e438, hF⟩ := zF hF
    refine zH (zM (Do_gtr (a := g343) (b := 0) rfl rfl) e438) ?_
    refine yK (b := x437) rfl rfl rfl (fun c439 => ?_) (fun c439 => ?_)
    ·have hF := zQ c439 hF
     refine zK (.int .u8 x398) ?_
     obtain ⟨x440, e441, hF⟩ := zF hF
     refine zH (zM (Do_geq (a := x398) (b := 48) rfl rfl) e441) ?_
     obtain ⟨j442, hF, hK443⟩ := zG hF
     refine RL_cutS 4 [26, 27, 28, 29] [(29, .bool j442)] (fun wl => Hd O w wl S []) ?_ ?_
     ·skip
      refine yK (b := x440) rfl rfl rfl (fun c445 => ?_) (fun c445 => ?_)
      ·have hF := zQ c445 hF
       refine zK (.int .u8 x398) ?_
       obtain ⟨x446, e447, hF⟩ := zF hF
       refine zH (zM (Do_leq (a := x398) (b := 57) rfl rfl) e447) ?_
       refine zH (yI (v := .bool x446) rfl rfl) ?_
       obtain rfl := someI hF
       exact zD (zA (meet ⟨(zJ rfl zL), H.pick [] (by decide)⟩))
      have hF := zS c445 hF
      refine yC ?_
      refine yC ?_
      refine zH (yF (v := .bool false) rfl rfl) ?_
      obtain rfl := someI hF
      exact zD (zA (meet ⟨(zJ rfl zL), H.pick [] (by decide)⟩))
     rintro ρ w444 H
     have hF := hK443
     refine yK (b := j442) rfl rfl rfl (fun c448 => ?_) (fun c448 => ?_)
     ·have hF := zQ c448 hF
      refine yC ?_
      refine yC ?_
      refine zH (yI (v := .bool true) rfl rfl) ?_
      refine zH (yI (v := .bool true) rfl rfl) ?_
      refine zH (yF (v := .bool true) rfl rfl) ?_
      refine zH (wJ (p := true) rfl) ?_
      obtain rfl := someI hF
      exact (zD (zA (meet ⟨(), (zJ rfl zL), H.pick [] (by decide)⟩)))
     have hF := zS c448 hF
     refine zK (.int .u8 x398) ?_
     obtain ⟨x449, e450, hF⟩ := zF hF
     refine zH (zM (yR (a := x398) (b := 45) rfl rfl) e450) ?_
     refine zH (yF (v := .bool x449) rfl rfl) ?_
     refine zH (yI (v := .bool x449) rfl rfl) ?_
     refine zH (yF (v := .bool x449) rfl rfl) ?_
     obtain ⟨x451, e452, hF⟩ := zF hF
     refine zH (zM (wJ (p := x449) rfl) e452) ?_
     obtain rfl := someI hF
     exact (zD (zA (meet ⟨(), (zJ rfl zL), H.pick [] (by decide)⟩)))
    have hF := zS c439 hF
    refine yC ?_
    refine yC ?_
    refine yC ?_
    refine yC ?_
    refine yC ?_
    refine yC ?_
    refine yC ?_
    refine yC ?_
    refine yC ?_
    refine yC ?_
    refine zH (yF (v := .bool false) rfl rfl) ?_
    refine zH (yF (v := .bool false) rfl rfl) ?_
    refine zH (wJ (p := false) rfl) ?_
    obtain rfl := someI hF
    exact (zD (zA (meet ⟨(), (zJ rfl zL), H.pick [] (by decide)⟩)))
   rintro _ ρ w426 H
   have hF := hK427
   refine yA (b := g425) rfl (fun c453 => ?_) (fun c453 => ?_)
   ·have hF := zQ c453 hF
    refine zC fun K454 hK454 => ?_
    refine zB ?_
    refine zI (.bool false) ?_
    refine (zD (zA (hK454 _ _ ?_)))
    obtain rfl := someI hF
    refine (yB (yE (zW (zW (yE (zW (post1 (v1 := .bool false) rfl rfl ?_)))))))
    exact ⟨rfl, H.pick [] (by decide)⟩
   have hF := zS c453 hF
   refine (zX (yT (zA (hK396 _ _ ?_))))
   refine zB ?_
   refine zK (.int .i64 g343) ?_
   obtain ⟨x455, e456, hF⟩ := zF hF
   refine zH (xP (a := g343) (b := 1) rfl rfl e456) ?_
   refine zI (.int .i64 x455) ?_
   exact (zD (zA (meet ⟨(n349, x455), (zJ rfl zL), ⟨H.pick [] (by decide), hF⟩, Nat.lt_succ_self _⟩)))
  have hF := zS c362 hF
  exact (xJ (yO (yO (xB (zA (meet ⟨(), zL, ⟨H.pick [] (by decide), hF⟩⟩))))))
 rintro _ ρ w174 ⟨H, hF⟩
 have hF := wB ek176 hF
 obtain ⟨g475, hF, hK477⟩ := zG hF
 refine yL [2, 37, 38, 39, 40, 41, 42, 43, 44, 45, 46, 47, 48] (fun (g : Unit) => [(2, .bool g475)]) (fun g wl => Hd O w wl S []) ?_ ?_
 ·skip
  refine zB ?_
  refine zK (.string (bs p0)) ?_
  obtain ⟨x478, e479, hF⟩ := zF hF
  refine zH (zM (Do_neqs (s1 := p0) (s2 := []) rfl rfl) e479) ?_
  obtain ⟨j480, hF, hK481⟩ := zG hF
  refine RL_cutS 5 [39, 40, 41, 42, 43] [(43, .bool j480)] (fun wl => Hd O w wl S []) ?_ ?_
  ·skip
   refine yK (b := x478) rfl rfl rfl (fun c483 => ?_) (fun c483 => ?_)
   ·have hF := zQ c483 hF
    refine zK (.string (bs p0)) ?_
    obtain ⟨x484, e485, hF⟩ := zF hF
    refine zH (yN (Do_slen (s1 := p0) u9 rfl) (congrArg (Value.int .i64) e485)) ?_
    obtain ⟨x486, e487, hF⟩ := zF hF
    refine zH (zM (Do_leq (a := x484) (b := 30) rfl rfl) e487) ?_
    refine zH (yI (v := .bool x486) rfl rfl) ?_
    obtain rfl := someI hF
    exact zD (zA (meet ⟨(zJ rfl zL), H.pick [] (by decide)⟩))
   have hF := zS c483 hF
   refine yC ?_
   refine yC ?_
   refine yC ?_
   refine zH (yF (v := .bool false) rfl rfl) ?_
   obtain rfl := someI hF
   exact zD (zA (meet ⟨(zJ rfl zL), H.pick [] (by decide)⟩))
  rintro ρ w482 H
  have hF := hK481
  refine yK (b := j480) rfl rfl rfl (fun c488 => ?_) (fun c488 => ?_)
  ·have hF := zQ c488 hF
   refine zK (.string (bs p0)) ?_
   have H489 := H
   obtain ⟨x490, e491, hF⟩ := zG hF
   refine zZ rfl rfl (zT en151 rfl) (F_ref6_Reserved_w p0 _ e491 _ _ _ (H.enter [] [] (by decide) rfl)) ?_
   rintro _ w492 ⟨rfl, G493⟩
   have H := H489.step (G493.only : Only [] _ _)
   refine ⟨_, rfl, ?_⟩
   obtain ⟨x494, e495, hF⟩ := zF hF
   refine zH (zM (wJ (p := x490) rfl) e495) ?_
   refine zH (yI (v := .bool x494) rfl rfl) ?_
   refine zI (.bool x494) ?_
   obtain rfl := someI hF
   exact (zD (zA (meet ⟨(), (zJ rfl zL), H.pick [] (by decide)⟩)))
  have hF := zS c488 hF
  refine yC ?_
  refine yC ?_
  refine yC ?_
  refine zH (yF (v := .bool false) rfl rfl) ?_
  refine zI (.bool false) ?_
  obtain rfl := someI hF
  exact (zD (zA (meet ⟨(), (zJ rfl zL), H.pick [] (by decide)⟩)))
 rintro _ ρ w476 H
 have hF := hK477
 obtain rfl := someI hF
 refine (yB (post1 (v1 := .bool g475) rfl rfl ?_))
 exact ⟨rfl, H.pick [] (by decide)⟩
set_option maxHeartbeats 4000000 in
set_option maxRecDepth 100000 in
theorem F_ref6_nodeFault_w (p0 : Cond) (v1 : Value) (r : Int) (hF : F_ref6_nodeFault p0 = some r) (O S : List Nat) (w : World) (H : Hd O w w S [.fz (.sl rCond v1 p0.Kids)]) :
  Calls Tryz.prog 143 ([.agg [.int .i64 p0.Kind, .string (bs p0.Name), .string (bs p0.Other), .int .i64 p0.Op, .int .i64 p0.N, .int .i64 p0.Frames, v1].toArray] : List Value).toArray w fun e w' => e = .returned (.int .i64 r) ∧ Hd O w w' S [] := by
 unfold F_ref6_nodeFault at hF
 refine zY 135 Tryz.func143 rfl rfl rfl ?_
 refine zC fun K3 hK3 => ?_
 refine zB ?_
 refine yZ rfl rfl (wF (cs := [.int .i64 p0.Kind, .string (bs p0.Name), .string (bs p0.Other), .int .i64 p0.Op, .int .i64 p0.N, .int .i64 p0.Frames, v1]) rfl H) ?_
 rintro _ w6 ⟨b4, rfl, H⟩
 refine zI (.int .i64 0) ?_
 refine (zD (zA (hK3 _ _ ?_)))
 refine zC fun K15 hK15 => ?_
 refine zC fun K16 hK16 => ?_
 refine zB ?_
 refine zH (fa70_0 rfl) ?_
 refine zH (zO one3 rfl (Cells.get (Blk.cells (H.item (i := 1) rfl)) (i := 0) rfl)) ?_
 have H17 := H
 obtain ⟨x18, e19, hF⟩ := zG hF
 refine zZ rfl rfl (zT en106 rfl) (F_ref6_outside_w p0.Kind 1 15 _ e19 _ _ _ (H.enter [] [] (by decide) rfl)) ?_
 rintro _ w20 ⟨rfl, G21⟩
 have H := H17.step (G21.only : Only [] _ _)
 refine ⟨_, rfl, ?_⟩
 refine (zD (zA (hK16 _ _ ?_)))
 refine yA (b := x18) rfl (fun c22 => ?_) (fun c22 => ?_)
 ·have hF := zQ c22 hF
  refine zC fun K23 hK23 => ?_
  refine zB ?_
  refine zI (.int .i64 7) ?_
  refine (zD (zA (hK23 _ _ ?_)))
  obtain rfl := someI hF
  refine (yB (zW (post1 (v1 := .int .i64 7) rfl rfl ?_)))
  exact ⟨rfl, H.pick [] (by decide)⟩
 have hF := zS c22 hF
 refine (zX (zA (hK15 _ _ ?_)))
 refine zC fun K24 hK24 => ?_
 refine zB ?_
 refine zH (fa70_0 rfl) ?_
 refine zH (zO one3 rfl (Cells.get (Blk.cells (H.item (i := 1) rfl)) (i := 0) rfl)) ?_
 have H25 := H
 obtain ⟨⟨x26, x27, x28, x29, x30, x31⟩, e32, hF⟩ := zG hF
 refine zZ rfl rfl (zT en193 rfl) (F_ref6_fields_w p0.Kind _ e32 _ _ _ (H.enter [] [] (by decide) rfl)) ?_
 rintro _ w33 ⟨rfl, G34⟩
 have H := H25.step (G34.only : Only [] _ _)
 refine ⟨_, rfl, ?_⟩
 refine zK (.tuple #[.bool x26, .bool x27, .bool x28, .bool x29, .bool x30, .int .i64 x31]) ?_
 refine zH (xY (v := .bool x26) rfl rfl) ?_
 refine zH (xY (v := .bool x27) rfl rfl) ?_
 refine zH (xY (v := .bool x28) rfl rfl) ?_
 refine zH (xY (v := .bool x29) rfl rfl) ?_
 refine zH (xY (v := .bool x30) rfl rfl) ?_
 refine zH (xY (v := .int .i64 x31) rfl rfl) ?_
 refine zI (.bool x26) ?_
 refine zI (.bool x27) ?_
 refine zI (.bool x28) ?_
 refine zI (.bool x29) ?_
 refine zI (.bool x30) ?_
 refine zI (.int .i64 x31) ?_
 refine (zD (zA (hK24 _ _ ?_)))
 refine zC fun K81 hK81 => ?_
 obtain ⟨g123, hF, hK125⟩ := zG hF
 refine yL [22, 23, 24, 25, 26, 27, 28, 29, 30, 31, 32, 33, 34, 35, 36, 37, 38, 39, 40, 41, 42, 43, 44, 45, 46, 47, 48, 49, 50, 51, 52, 53, 54, 55, 56, 57, 58, 59, 60, 61, 62, 63, 64] (fun (g : Unit) => [(64, .bool g123)]) (fun g wl => Hd O w wl S [.fz (.sl rCond v1 p0.Kids), .blk b4 [.int .i64 p0.Kind, .string (bs p0.Name), .string (bs p0.Other), .int .i64 p0.Op, .int .i64 p0.N, .int .i64 p0.Frames, v1] 70]) ?_ ?_
 ·skip
  refine zB ?_
  refine zK (.bool x26) ?_
  obtain ⟨x126, e127, hF⟩ := zF hF
  refine zH (zM (wJ (p := x26) rfl) e127) ?_
  obtain ⟨j128, hF, hK129⟩ := zG hF
  refine RL_cutS 5 [24, 25, 26, 27, 28] [(28, .bool j128)] (fun wl => Hd O w wl S [.fz (.sl rCond v1 p0.Kids), .blk b4 [.int .i64 p0.Kind, .string (bs p0.Name), .string (bs p0.Other), .int .i64 p0.Op, .int .i64 p0.N, .int .i64 p0.Frames, v1] 70]) ?_ ?_
  ·skip
   refine yK (b := x126) rfl rfl rfl (fun c131 => ?_) (fun c131 => ?_)
   ·have hF := zQ c131 hF
    refine zH (fa70_1 rfl) ?_
    refine zH (zO one9 rfl (Cells.get (Blk.cells (H.item (i := 1) rfl)) (i := 1) rfl)) ?_
    obtain ⟨x132, e133, hF⟩ := zF hF
    refine zH (zM (Do_neqs (s1 := p0.Name) (s2 := []) rfl rfl) e133) ?_
    refine zH (yI (v := .bool x132) rfl rfl) ?_
    obtain rfl := someI hF
    exact zD (zA (meet ⟨(zJ rfl zL), H.pick [0, 1] (by decide)⟩))
   have hF := zS c131 hF
   refine yC ?_
   refine yC ?_
   refine yC ?_
   refine zH (yF (v := .bool false) rfl rfl) ?_
   obtain rfl := someI hF
   exact zD (zA (meet ⟨(zJ rfl zL), H.pick [0, 1] (by decide)⟩))
  rintro ρ w130 H
  have hF := hK129
  obtain ⟨j134, hF, hK135⟩ := zG hF
  refine RL_cutS 9 [29, 30, 31, 32, 33, 34, 35, 36, 37] [(37, .bool j134)] (fun wl => Hd O w wl S [.fz (.sl rCond v1 p0.Kids), .blk b4 [.int .i64 p0.Kind, .string (bs p0.Name), .string (bs p0.Other), .int .i64 p0.Op, .int .i64 p0.N, .int .i64 p0.Frames, v1] 70]) ?_ ?_
  ·skip
   refine yK (b := j128) rfl rfl rfl (fun c137 => ?_) (fun c137 => ?_)
   ·have hF := zQ c137 hF
    refine yC ?_
    refine yC ?_
    refine yC ?_
    refine yC ?_
    refine yC ?_
    refine yC ?_
    refine yC ?_
    refine zH (yI (v := .bool true) rfl rfl) ?_
    obtain rfl := someI hF
    exact zD (zA (meet ⟨(zJ rfl zL), H.pick [0, 1] (by decide)⟩))
   have hF := zS c137 hF
   refine zK (.bool x27) ?_
   obtain ⟨x138, e139, hF⟩ := zF hF
   refine zH (zM (wJ (p := x27) rfl) e139) ?_
   refine yK (b := x138) rfl rfl rfl (fun c140 => ?_) (fun c140 => ?_)
   ·have hF := zQ c140 hF
    refine zH (fa70_2 rfl) ?_
    refine zH (zO one9 rfl (Cells.get (Blk.cells (H.item (i := 1) rfl)) (i := 2) rfl)) ?_
    obtain ⟨x141, e142, hF⟩ := zF hF
    refine zH (zM (Do_neqs (s1 := p0.Other) (s2 := []) rfl rfl) e142) ?_
    refine zH (yI (v := .bool x141) rfl rfl) ?_
    refine zH (yF (v := .bool x141) rfl rfl) ?_
    obtain rfl := someI hF
    exact zD (zA (meet ⟨(zJ rfl zL), H.pick [0, 1] (by decide)⟩))
   have hF := zS c140 hF
   refine yC ?_
   refine yC ?_
   refine yC ?_
   refine zH (yF (v := .bool false) rfl rfl) ?_
   refine zH (yF (v := .bool false) rfl rfl) ?_
   obtain rfl := someI hF
   exact zD (zA (meet ⟨(zJ rfl zL), H.pick [0, 1] (by decide)⟩))
  rintro ρ w136 H
  have hF := hK135
  obtain ⟨j143, hF, hK144⟩ := zG hF
  refine RL_cutS 9 [38, 39, 40, 41, 42, 43, 44, 45, 46] [(46, .bool j143)] (fun wl => Hd O w wl S [.fz (.sl rCond v1 p0.Kids), .blk b4 [.int .i64 p0.Kind, .string (bs p0.Name), .string (bs p0.Other), .int .i64 p0.Op, .int .i64 p0.N, .int .i64 p0.Frames, v1] 70]) ?_ ?_
  ·skip
   refine yK (b := j134) rfl rfl rfl (fun c146 => ?_) (fun c146 => ?_)
   ·have hF := zQ c146 hF
    refine yC ?_
    refine yC ?_
    refine yC ?_
    refine yC ?_
    refine yC ?_
    refine yC ?_
    refine yC ?_
    refine zH (yI (v := .bool true) rfl rfl) ?_
    obtain rfl := someI hF
    exact zD (zA (meet ⟨(zJ rfl zL), H.pick [0, 1] (by decide)⟩))
   have hF := zS c146 hF
   refine zK (.bool x28) ?_
   obtain ⟨x147, e148, hF⟩ := zF hF
   refine zH (zM (wJ (p := x28) rfl) e148) ?_
   refine yK (b := x147) rfl rfl rfl (fun c149 => ?_) (fun c149 => ?_)
   ·have hF := zQ c149 hF
    refine zH (fa70_3 rfl) ?_
    refine zH (zO one3 rfl (Cells.get (Blk.cells (H.item (i := 1) rfl)) (i := 3) rfl)) ?_
    obtain ⟨x150, e151, hF⟩ := zF hF
    refine zH (zM (Do_neq (a := p0.Op) (b := 0) rfl rfl) e151) ?_
    refine zH (yI (v := .bool x150) rfl rfl) ?_
    refine zH (yF (v := .bool x150) rfl rfl) ?_
    obtain rfl := someI hF
    exact zD (zA (meet ⟨(zJ rfl zL), H.pick [0, 1] (by decide)⟩))
   have hF := zS c149 hF
   refine yC ?_
   refine yC ?_
   refine yC ?_
   refine zH (yF (v := .bool false) rfl rfl) ?_
   refine zH (yF (v := .bool false) rfl rfl) ?_
   obtain rfl := someI hF
   exact zD (zA (meet ⟨(zJ rfl zL), H.pick [0, 1] (by decide)⟩))
  rintro ρ w145 H
  have hF := hK144
  obtain ⟨j152, hF, hK153⟩ := zG hF
  refine RL_cutS 9 [47, 48, 49, 50, 51, 52, 53, 54, 55] [(55, .bool j152)] (fun wl => Hd O w wl S [.fz (.sl rCond v1 p0.Kids), .blk b4 [.int .i64 p0.Kind, .string (bs p0.Name), .string (bs p0.Other), .int .i64 p0.Op, .int .i64 p0.N, .int .i64 p0.Frames, v1] 70]) ?_ ?_
  ·skip
   refine yK (b := j143) rfl rfl rfl (fun c155 => ?_) (fun c155 => ?_)
   ·have hF := zQ c155 hF
    refine yC ?_
    refine yC ?_
    refine yC ?_
    refine yC ?_
    refine yC ?_
    refine yC ?_
    refine yC ?_
    refine zH (yI (v := .bool true) rfl rfl) ?_
    obtain rfl := someI hF
    exact zD (zA (meet ⟨(zJ rfl zL), H.pick [0, 1] (by decide)⟩))
   have hF := zS c155 hF
   refine zK (.bool x29) ?_
   obtain ⟨x156, e157, hF⟩ := zF hF
   refine zH (zM (wJ (p := x29) rfl) e157) ?_
   refine yK (b := x156) rfl rfl rfl (fun c158 => ?_) (fun c158 => ?_)
   ·have hF := zQ c158 hF
    refine zH (fa70_4 rfl) ?_
    refine zH (zO one3 rfl (Cells.get (Blk.cells (H.item (i := 1) rfl)) (i := 4) rfl)) ?_
    obtain ⟨x159, e160, hF⟩ := zF hF
    refine zH (zM (Do_neq (a := p0.N) (b := 0) rfl rfl) e160) ?_
    refine zH (yI (v := .bool x159) rfl rfl) ?_
    refine zH (yF (v := .bool x159) rfl rfl) ?_
    obtain rfl := someI hF
    exact zD (zA (meet ⟨(zJ rfl zL), H.pick [0, 1] (by decide)⟩))
   have hF := zS c158 hF
   refine yC ?_
   refine yC ?_
   refine yC ?_
   refine zH (yF (v := .bool false) rfl rfl) ?_
   refine zH (yF (v := .bool false) rfl rfl) ?_
   obtain rfl := someI hF
   exact zD (zA (meet ⟨(zJ rfl zL), H.pick [0, 1] (by decide)⟩))
  rintro ρ w154 H
  have hF := hK153
  refine yK (b := j152) rfl rfl rfl (fun c161 => ?_) (fun c161 => ?_)
  ·have hF := zQ c161 hF
   refine yC ?_
   refine yC ?_
   refine yC ?_
   refine yC ?_
   refine yC ?_
   refine yC ?_
   refine yC ?_
   refine zH (yI (v := .bool true) rfl rfl) ?_
   obtain rfl := someI hF
   exact (zD (zA (meet ⟨(), (zJ rfl zL), H.pick [0, 1] (by decide)⟩)))
  have hF := zS c161 hF
  refine zK (.bool x30) ?_
  obtain ⟨x162, e163, hF⟩ := zF hF
  refine zH (zM (wJ (p := x30) rfl) e163) ?_
  refine yK (b := x162) rfl rfl rfl (fun c164 => ?_) (fun c164 => ?_)
  ·have hF := zQ c164 hF
   refine zH (fa70_5 rfl) ?_
   refine zH (zO one3 rfl (Cells.get (Blk.cells (H.item (i := 1) rfl)) (i := 5) rfl)) ?_
   obtain ⟨x165, e166, hF⟩ := zF hF
   refine zH (zM (Do_neq (a := p0.Frames) (b := 0) rfl rfl) e166) ?_
   refine zH (yI (v := .bool x165) rfl rfl) ?_
   refine zH (yF (v := .bool x165) rfl rfl) ?_
   obtain rfl := someI hF
   exact (zD (zA (meet ⟨(), (zJ rfl zL), H.pick [0, 1] (by decide)⟩)))
  have hF := zS c164 hF
  refine yC ?_
  refine yC ?_
  refine yC ?_
  refine zH (yF (v := .bool false) rfl rfl) ?_
  refine zH (yF (v := .bool false) rfl rfl) ?_
  obtain rfl := someI hF
  exact (zD (zA (meet ⟨(), (zJ rfl zL), H.pick [0, 1] (by decide)⟩)))
 rintro _ ρ w124 H
 have hF := hK125
 refine yA (b := g123) rfl (fun c167 => ?_) (fun c167 => ?_)
 ·have hF := zQ c167 hF
  refine zC fun K168 hK168 => ?_
  refine zB ?_
  refine zI (.int .i64 2) ?_
  refine (zD (zA (hK168 _ _ ?_)))
  obtain rfl := someI hF
  refine (yB (zW (post1 (v1 := .int .i64 2) rfl rfl ?_)))
  exact ⟨rfl, H.pick [] (by decide)⟩
 have hF := zS c167 hF
 refine (zX (zA (hK81 _ _ ?_)))
 refine zC fun K198 hK198 => ?_
 obtain ⟨g223, hF, hK225⟩ := zG hF
 refine yL [65, 66, 67, 68, 69, 70, 71, 72, 73, 74, 75, 76, 77, 78, 79, 80, 81, 82, 83] (fun (g : Unit) => [(83, .bool g223)]) (fun g wl => Hd O w wl S [.fz (.sl rCond v1 p0.Kids), .blk b4 [.int .i64 p0.Kind, .string (bs p0.Name), .string (bs p0.Other), .int .i64 p0.Op, .int .i64 p0.N, .int .i64 p0.Frames, v1] 70]) ?_ ?_
 ·skip
  refine zB ?_
  refine zK (.int .i64 x31) ?_
  obtain ⟨x226, e227, hF⟩ := zF hF
  refine zH (zM (Do_geq (a := x31) (b := 0) rfl rfl) e227) ?_
  obtain ⟨j228, hF, hK229⟩ := zG hF
  refine RL_cutS 7 [67, 68, 69, 70, 71, 72, 73] [(73, .bool j228)] (fun wl => Hd O w wl S [.fz (.sl rCond v1 p0.Kids), .blk b4 [.int .i64 p0.Kind, .string (bs p0.Name), .string (bs p0.Other), .int .i64 p0.Op, .int .i64 p0.N, .int .i64 p0.Frames, v1] 70]) ?_ ?_
  ·skip
   refine yK (b := x226) rfl rfl rfl (fun c231 => ?_) (fun c231 => ?_)
   ·have hF := zQ c231 hF
    refine zH (fa70_6 rfl) ?_
    refine zH (zO one68 rfl (Cells.get (Blk.cells (H.item (i := 1) rfl)) (i := 6) rfl)) ?_
    obtain ⟨x232, e233, hF⟩ := zF hF
    obtain ⟨a234, c235, q236⟩ := SlF.len ((H.item (i := 0) rfl))
    refine zH (yN (xM u68 q236) (congrArg (Value.int .i64) e233)) ?_
    refine zK (.int .i64 x31) ?_
    obtain ⟨x237, e238, hF⟩ := zF hF
    refine zH (zM (Do_neq (a := x232) (b := x31) rfl rfl) e238) ?_
    refine zH (yI (v := .bool x237) rfl rfl) ?_
    obtain rfl := someI hF
    exact zD (zA (meet ⟨(zJ rfl zL), H.pick [0, 1] (by decide)⟩))
   have hF := zS c231 hF
   refine yC ?_
   refine yC ?_
   refine yC ?_
   refine yC ?_
   refine yC ?_
   refine zH (yF (v := .bool false) rfl rfl) ?_
   obtain rfl := someI hF
   exact zD (zA (meet ⟨(zJ rfl zL), H.pick [0, 1] (by decide)⟩))
  rintro ρ w230 H
  have hF := hK229
  refine yK (b := j228) rfl rfl rfl (fun c239 => ?_) (fun c239 => ?_)
  ·have hF := zQ c239 hF
   refine yC ?_
   refine yC ?_
   refine yC ?_
   refine yC ?_
   refine yC ?_
   refine yC ?_
   refine yC ?_
   refine yC ?_
   refine zH (yI (v := .bool true) rfl rfl) ?_
   obtain rfl := someI hF
   exact (zD (zA (meet ⟨(), (zJ rfl zL), H.pick [0, 1] (by decide)⟩)))
  have hF := zS c239 hF
  refine zK (.int .i64 x31) ?_
  obtain ⟨x240, e241, hF⟩ := zF hF
  refine zH (zM (xI (a := x31) (b := 0) rfl rfl) e241) ?_
  refine yK (b := x240) rfl rfl rfl (fun c242 => ?_) (fun c242 => ?_)
  ·have hF := zQ c242 hF
   refine zH (fa70_6 rfl) ?_
   refine zH (zO one68 rfl (Cells.get (Blk.cells (H.item (i := 1) rfl)) (i := 6) rfl)) ?_
   obtain ⟨x243, e244, hF⟩ := zF hF
   obtain ⟨a245, c246, q247⟩ := SlF.len ((H.item (i := 0) rfl))
   refine zH (yN (xM u68 q247) (congrArg (Value.int .i64) e244)) ?_
   obtain ⟨x248, e249, hF⟩ := zF hF
   refine zH (zM (xI (a := x243) (b := 2) rfl rfl) e249) ?_
   refine zH (yI (v := .bool x248) rfl rfl) ?_
   refine zH (yF (v := .bool x248) rfl rfl) ?_
   obtain rfl := someI hF
   exact (zD (zA (meet ⟨(), (zJ rfl zL), H.pick [0, 1] (by decide)⟩)))
  have hF := zS c242 hF
  refine yC ?_
  refine yC ?_
  refine yC ?_
  refine yC ?_
  refine zH (yF (v := .bool false) rfl rfl) ?_
  refine zH (yF (v := .bool false) rfl rfl) ?_
  obtain rfl := someI hF
  exact (zD (zA (meet ⟨(), (zJ rfl zL), H.pick [0, 1] (by decide)⟩)))
 rintro _ ρ w224 H
 have hF := hK225
 refine yA (b := g223) rfl (fun c250 => ?_) (fun c250 => ?_)
 ·have hF := zQ c250 hF
  refine zC fun K251 hK251 => ?_
  refine zB ?_
  refine zI (.int .i64 2) ?_
  refine (zD (zA (hK251 _ _ ?_)))
  obtain rfl := someI hF
  refine (yB (zW (post1 (v1 := .int .i64 2) rfl rfl ?_)))
  exact ⟨rfl, H.pick [] (by decide)⟩
 have hF := zS c250 hF
 refine (zX (zA (hK198 _ _ ?_)))
 refine zC fun K277 hK277 => ?_
 obtain ⟨g298, hF, hK300⟩ := zG hF
 refine yL [84, 85, 86, 87, 88, 89, 90, 91, 92, 93, 94, 95, 96, 97, 98, 99] (fun (g : Unit) => [(99, .bool g298)]) (fun g wl => Hd O w wl S [.fz (.sl rCond v1 p0.Kids), .blk b4 [.int .i64 p0.Kind, .string (bs p0.Name), .string (bs p0.Other), .int .i64 p0.Op, .int .i64 p0.N, .int .i64 p0.Frames, v1] 70]) ?_ ?_
 ·skip
  refine zB ?_
  refine zK (.bool x26) ?_
  obtain ⟨j301, hF, hK302⟩ := zG hF
  refine RL_cutS 6 [85, 86, 87, 88, 89, 90] [(90, .bool j301)] (fun wl => Hd O w wl S [.fz (.sl rCond v1 p0.Kids), .blk b4 [.int .i64 p0.Kind, .string (bs p0.Name), .string (bs p0.Other), .int .i64 p0.Op, .int .i64 p0.N, .int .i64 p0.Frames, v1] 70]) ?_ ?_
  ·skip
   refine yK (b := x26) rfl rfl rfl (fun c304 => ?_) (fun c304 => ?_)
   ·have hF := zQ c304 hF
    refine zH (fa70_1 rfl) ?_
    refine zH (zO one9 rfl (Cells.get (Blk.cells (H.item (i := 1) rfl)) (i := 1) rfl)) ?_
    have H305 := H
    obtain ⟨x306, e307, hF⟩ := zG hF
    refine zZ rfl rfl (zT en90 rfl) (F_ref6_IsName_w p0.Name _ e307 _ _ _ (H.enter [] [] (by decide) rfl)) ?_
    rintro _ w308 ⟨rfl, G309⟩
    have H := H305.step (G309.only : Only [] _ _)
    refine ⟨_, rfl, ?_⟩
    obtain ⟨x310, e311, hF⟩ := zF hF
    refine zH (zM (wJ (p := x306) rfl) e311) ?_
    refine zH (yI (v := .bool x310) rfl rfl) ?_
    obtain rfl := someI hF
    exact zD (zA (meet ⟨(zJ rfl zL), H.pick [0, 1] (by decide)⟩))
   have hF := zS c304 hF
   refine yC ?_
   refine yC ?_
   refine yC ?_
   refine yC ?_
   refine zH (yF (v := .bool false) rfl rfl) ?_
   obtain rfl := someI hF
   exact zD (zA (meet ⟨(zJ rfl zL), H.pick [0, 1] (by decide)⟩))
  rintro ρ w303 H
  have hF := hK302
  refine yK (b := j301) rfl rfl rfl (fun c312 => ?_) (fun c312 => ?_)
  ·have hF := zQ c312 hF
   refine yC ?_
   refine yC ?_
   refine yC ?_
   refine yC ?_
   refine yC ?_
   refine yC ?_
   refine yC ?_
   refine zH (yI (v := .bool true) rfl rfl) ?_
   obtain rfl := someI hF
   exact (zD (zA (meet ⟨(), (zJ rfl zL), H.pick [0, 1] (by decide)⟩)))
  have hF := zS c312 hF
  refine zK (.bool x27) ?_
  refine yK (b := x27) rfl rfl rfl (fun c313 => ?_) (fun c313 => ?_)
  ·have hF := zQ c313 hF
   refine zH (fa70_2 rfl) ?_
   refine zH (zO one9 rfl (Cells.get (Blk.cells (H.item (i := 1) rfl)) (i := 2) rfl)) ?_
   have H314 := H
   obtain ⟨x315, e316, hF⟩ := zG hF
   refine zZ rfl rfl (zT en90 rfl) (F_ref6_IsName_w p0.Other _ e316 _ _ _ (H.enter [] [] (by decide) rfl)) ?_
   rintro _ w317 ⟨rfl, G318⟩
   have H := H314.step (G318.only : Only [] _ _)
   refine ⟨_, rfl, ?_⟩
   obtain ⟨x319, e320, hF⟩ := zF hF
   refine zH (zM (wJ (p := x315) rfl) e320) ?_
   refine zH (yI (v := .bool x319) rfl rfl) ?_
   refine zH (yF (v := .bool x319) rfl rfl) ?_
   obtain rfl := someI hF
   exact (zD (zA (meet ⟨(), (zJ rfl zL), H.pick [0, 1] (by decide)⟩)))
  have hF := zS c313 hF
  refine yC ?_
  refine yC ?_
  refine yC ?_
  refine yC ?_
  refine zH (yF (v := .bool false) rfl rfl) ?_
  refine zH (yF (v := .bool false) rfl rfl) ?_
  obtain rfl := someI hF
  exact (zD (zA (meet ⟨(), (zJ rfl zL), H.pick [0, 1] (by decide)⟩)))
 rintro _ ρ w299 H
 have hF := hK300
 refine yA (b := g298) rfl (fun c321 => ?_) (fun c321 => ?_)
 ·have hF := zQ c321 hF
  refine zC fun K322 hK322 => ?_
  refine zB ?_
  refine zI (.int .i64 8) ?_
  refine (zD (zA (hK322 _ _ ?_)))
  obtain rfl := someI hF
  refine (yB (zW (post1 (v1 := .int .i64 8) rfl rfl ?_)))
  exact ⟨rfl, H.pick [] (by decide)⟩
 have hF := zS c321 hF
 refine (zX (zA (hK277 _ _ ?_)))
 refine zC fun K334 hK334 => ?_
 obtain ⟨g341, hF, hK343⟩ := zG hF
 refine yL [100, 101, 102, 103, 104, 105] (fun (g : Unit) => [(105, .bool g341)]) (fun g wl => Hd O w wl S [.fz (.sl rCond v1 p0.Kids), .blk b4 [.int .i64 p0.Kind, .string (bs p0.Name), .string (bs p0.Other), .int .i64 p0.Op, .int .i64 p0.N, .int .i64 p0.Frames, v1] 70]) ?_ ?_
 ·skip
  refine zB ?_
  refine zK (.bool x28) ?_
  refine yK (b := x28) rfl rfl rfl (fun c344 => ?_) (fun c344 => ?_)
  ·have hF := zQ c344 hF
   refine zH (fa70_3 rfl) ?_
   refine zH (zO one3 rfl (Cells.get (Blk.cells (H.item (i := 1) rfl)) (i := 3) rfl)) ?_
   have H345 := H
   obtain ⟨x346, e347, hF⟩ := zG hF
   refine zZ rfl rfl (zT en106 rfl) (F_ref6_outside_w p0.Op 1 6 _ e347 _ _ _ (H.enter [] [] (by decide) rfl)) ?_
   rintro _ w348 ⟨rfl, G349⟩
   have H := H345.step (G349.only : Only [] _ _)
   refine ⟨_, rfl, ?_⟩
   refine zH (yI (v := .bool x346) rfl rfl) ?_
   obtain rfl := someI hF
   exact (zD (zA (meet ⟨(), (zJ rfl zL), H.pick [0, 1] (by decide)⟩)))
  have hF := zS c344 hF
  refine yC ?_
  refine yC ?_
  refine yC ?_
  refine zH (yF (v := .bool false) rfl rfl) ?_
  obtain rfl := someI hF
  exact (zD (zA (meet ⟨(), (zJ rfl zL), H.pick [0, 1] (by decide)⟩)))
 rintro _ ρ w342 H
 have hF := hK343
 refine yA (b := g341) rfl (fun c350 => ?_) (fun c350 => ?_)
 ·have hF := zQ c350 hF
  refine zC fun K351 hK351 => ?_
  refine zB ?_
  refine zI (.int .i64 7) ?_
  refine (zD (zA (hK351 _ _ ?_)))
  obtain rfl := someI hF
  refine (yB (zW (post1 (v1 := .int .i64 7) rfl rfl ?_)))
  exact ⟨rfl, H.pick [] (by decide)⟩
 have hF := zS c350 hF
 refine (zX (zA (hK334 _ _ ?_)))
 refine zC fun K363 hK363 => ?_
 obtain ⟨g370, hF, hK372⟩ := zG hF
 refine yL [106, 107, 108, 109, 110, 111] (fun (g : Unit) => [(111, .bool g370)]) (fun g wl => Hd O w wl S [.fz (.sl rCond v1 p0.Kids), .blk b4 [.int .i64 p0.Kind, .string (bs p0.Name), .string (bs p0.Other), .int .i64 p0.Op, .int .i64 p0.N, .int .i64 p0.Frames, v1] 70]) ?_ ?_
 ·skip
  refine zB ?_
  refine zK (.bool x30) ?_
  refine yK (b := x30) rfl rfl rfl (fun c373 => ?_) (fun c373 => ?_)
  ·have hF := zQ c373 hF
   refine zH (fa70_5 rfl) ?_
   refine zH (zO one3 rfl (Cells.get (Blk.cells (H.item (i := 1) rfl)) (i := 5) rfl)) ?_
   have H374 := H
   obtain ⟨x375, e376, hF⟩ := zG hF
   refine zZ rfl rfl (zT en106 rfl) (F_ref6_outside_w p0.Frames 1 4096 _ e376 _ _ _ (H.enter [] [] (by decide) rfl)) ?_
   rintro _ w377 ⟨rfl, G378⟩
   have H := H374.step (G378.only : Only [] _ _)
   refine ⟨_, rfl, ?_⟩
   refine zH (yI (v := .bool x375) rfl rfl) ?_
   obtain rfl := someI hF
   exact (zD (zA (meet ⟨(), (zJ rfl zL), H.pick [0, 1] (by decide)⟩)))
  have hF := zS c373 hF
  refine yC ?_
  refine yC ?_
  refine yC ?_
  refine zH (yF (v := .bool false) rfl rfl) ?_
  obtain rfl := someI hF
  exact (zD (zA (meet ⟨(), (zJ rfl zL), H.pick [0, 1] (by decide)⟩)))
 rintro _ ρ w371 H
 have hF := hK372
 refine yA (b := g370) rfl (fun c379 => ?_) (fun c379 => ?_)
 ·have hF := zQ c379 hF
  refine zC fun K380 hK380 => ?_
  refine zB ?_
  refine zI (.int .i64 9) ?_
  refine (zD (zA (hK380 _ _ ?_)))
  obtain rfl := someI hF
  refine (yB (zW (post1 (v1 := .int .i64 9) rfl rfl ?_)))
  exact ⟨rfl, H.pick [] (by decide)⟩
 have hF := zS c379 hF
 refine (zX (zA (hK363 _ _ ?_)))
 obtain ⟨k413, ek414, hF⟩ := xQ hF
 refine yL [2, 112, 113, 114, 115, 116, 117, 118, 119, 120, 121, 122, 123, 124, 125, 126] (fun (g : Unit) => []) (fun g wl => Hd O w wl S [.fz (.sl rCond v1 p0.Kids), .blk b4 [.int .i64 p0.Kind, .string (bs p0.Name), .string (bs p0.Other), .int .i64 p0.Op, .int .i64 p0.N, .int .i64 p0.Frames, v1] 70] ∧ k413 () = some r) ?_ ?_
 ·skip
  refine zC fun K415 hK415 => ?_
  refine zB ?_
  refine zH (fa70_0 rfl) ?_
  refine zH (zO one3 rfl (Cells.get (Blk.cells (H.item (i := 1) rfl)) (i := 0) rfl)) ?_
  refine (zD (zA (hK415 _ _ ?_)))
  refine yG ?_
  obtain ⟨g422, hF, hK424⟩ := zG hF
  refine yL [114, 115, 116] (fun (g : Unit) => [(114, .bool g422)]) (fun g wl => Hd O w wl S [.fz (.sl rCond v1 p0.Kids), .blk b4 [.int .i64 p0.Kind, .string (bs p0.Name), .string (bs p0.Other), .int .i64 p0.Op, .int .i64 p0.N, .int .i64 p0.Frames, v1] 70]) ?_ ?_
  ·skip
   refine zC fun K425 hK425 => ?_
   refine zB ?_
   obtain ⟨x426, e427, hF⟩ := zF hF
   refine zH (zM (yR (a := p0.Kind) (b := 3) rfl rfl) e427) ?_
   refine zI (.bool x426) ?_
   refine (zD (zA (hK425 _ _ ?_)))
   refine yA (b := x426) rfl (fun c428 => ?_) (fun c428 => ?_)
   ·have hF := zQ c428 hF
    obtain rfl := someI hF
    exact (zX (zA (meet ⟨(), (zJ rfl zL), H.pick [0, 1] (by decide)⟩)))
   have hF := zS c428 hF
   refine zB ?_
   obtain ⟨x429, e430, hF⟩ := zF hF
   refine zH (zM (yR (a := p0.Kind) (b := 5) rfl rfl) e430) ?_
   refine zI (.bool x429) ?_
   obtain rfl := someI hF
   exact (zD (zA (meet ⟨(), (zJ rfl zL), H.pick [0, 1] (by decide)⟩)))
  rintro _ ρ w423 H
  have hF := hK424
  refine yA (b := g422) rfl (fun c431 => ?_) (fun c431 => ?_)
  ·have hF := zQ c431 hF
   refine zC fun K432 hK432 => ?_
   refine zB ?_
   refine zH (fa70_4 rfl) ?_
   refine zH (zO one3 rfl (Cells.get (Blk.cells (H.item (i := 1) rfl)) (i := 4) rfl)) ?_
   have H433 := H
   obtain ⟨x434, e435, hF⟩ := zG hF
   refine zZ rfl rfl (zT en106 rfl) (F_ref6_outside_w p0.N (-1125899906842624) 1125899906842624 _ e435 _ _ _ (H.enter [] [] (by decide) rfl)) ?_
   rintro _ w436 ⟨rfl, G437⟩
   have H := H433.step (G437.only : Only [] _ _)
   refine ⟨_, rfl, ?_⟩
   refine (zD (zA (hK432 _ _ ?_)))
   refine yA (b := x434) rfl (fun c438 => ?_) (fun c438 => ?_)
   ·have hF := zQ c438 hF
    refine zC fun K439 hK439 => ?_
    refine zB ?_
    refine zI (.int .i64 9) ?_
    refine (zD (zA (hK439 _ _ ?_)))
    obtain rfl := someI hF
    refine (yB (yE (zW (post1 (v1 := .int .i64 9) rfl rfl ?_))))
    exact ⟨rfl, H.pick [] (by decide)⟩
   have hF := zS c438 hF
   exact (zX (yT (zA (meet ⟨(), zL, ⟨H.pick [0, 1] (by decide), hF⟩⟩))))
  have hF := zS c431 hF
  refine zC fun K440 hK440 => ?_
  refine zB ?_
  obtain ⟨x441, e442, hF⟩ := zF hF
  refine zH (zM (yR (a := p0.Kind) (b := 13) rfl rfl) e442) ?_
  refine zI (.bool x441) ?_
  refine (zD (zA (hK440 _ _ ?_)))
  refine yA (b := x441) rfl (fun c443 => ?_) (fun c443 => ?_)
  ·have hF := zQ c443 hF
   refine zC fun K444 hK444 => ?_
   refine zB ?_
   refine zH (fa70_4 rfl) ?_
   refine zH (zO one3 rfl (Cells.get (Blk.cells (H.item (i := 1) rfl)) (i := 4) rfl)) ?_
   refine zH (fa70_5 rfl) ?_
   refine zH (zO one3 rfl (Cells.get (Blk.cells (H.item (i := 1) rfl)) (i := 5) rfl)) ?_
   have H445 := H
   obtain ⟨x446, e447, hF⟩ := zG hF
   refine zZ rfl rfl (zT en106 rfl) (F_ref6_outside_w p0.N 1 p0.Frames _ e447 _ _ _ (H.enter [] [] (by decide) rfl)) ?_
   rintro _ w448 ⟨rfl, G449⟩
   have H := H445.step (G449.only : Only [] _ _)
   refine ⟨_, rfl, ?_⟩
   refine (zD (zA (hK444 _ _ ?_)))
   refine yA (b := x446) rfl (fun c450 => ?_) (fun c450 => ?_)
   ·have hF := zQ c450 hF
    refine zC fun K451 hK451 => ?_
    refine zB ?_
    refine zI (.int .i64 9) ?_
    refine (zD (zA (hK451 _ _ ?_)))
    obtain rfl := someI hF
    refine (yB (yE (zW (post1 (v1 := .int .i64 9) rfl rfl ?_))))
    exact ⟨rfl, H.pick [] (by decide)⟩
   have hF := zS c450 hF
   exact (zX (yT (zA (meet ⟨(), zL, ⟨H.pick [0, 1] (by decide), hF⟩⟩))))
  have hF := zS c443 hF
  exact (zX (yT (zA (meet ⟨(), zL, ⟨H.pick [0, 1] (by decide), hF⟩⟩))))
 rintro _ ρ w412 ⟨H, hF⟩
 have hF := wB ek414 hF
 refine zC fun K462 hK462 => ?_
 obtain ⟨g468, hF, hK470⟩ := zG hF
 refine yL [127, 128, 129, 130, 131, 132, 133, 134] (fun (g : Unit) => [(134, .bool g468)]) (fun g wl => Hd O w wl S []) ?_ ?_
 ·skip
  refine zB ?_
  refine zH (fa70_0 rfl) ?_
  refine zH (zO one3 rfl (Cells.get (Blk.cells (H.item (i := 1) rfl)) (i := 0) rfl)) ?_
  obtain ⟨x471, e472, hF⟩ := zF hF
  refine zH (zM (yR (a := p0.Kind) (b := 5) rfl rfl) e472) ?_
  refine yK (b := x471) rfl rfl rfl (fun c473 => ?_) (fun c473 => ?_)
  ·have hF := zQ c473 hF
   refine zH (fa70_4 rfl) ?_
   refine zH (zO one3 rfl (Cells.get (Blk.cells (H.item (i := 1) rfl)) (i := 4) rfl)) ?_
   obtain ⟨x474, e475, hF⟩ := zF hF
   refine zH (zM (xI (a := p0.N) (b := 0) rfl rfl) e475) ?_
   refine zH (yI (v := .bool x474) rfl rfl) ?_
   obtain rfl := someI hF
   exact (zD (zA (meet ⟨(), (zJ rfl zL), H.pick [] (by decide)⟩)))
  have hF := zS c473 hF
  refine yC ?_
  refine yC ?_
  refine yC ?_
  refine zH (yF (v := .bool false) rfl rfl) ?_
  obtain rfl := someI hF
  exact (zD (zA (meet ⟨(), (zJ rfl zL), H.pick [] (by decide)⟩)))
 rintro _ ρ w469 H
 have hF := hK470
 refine yA (b := g468) rfl (fun c476 => ?_) (fun c476 => ?_)
 ·have hF := zQ c476 hF
  refine zC fun K477 hK477 => ?_
  refine zB ?_
  refine zI (.int .i64 9) ?_
  refine (zD (zA (hK477 _ _ ?_)))
  obtain rfl := someI hF
  refine (yB (zW (post1 (v1 := .int .i64 9) rfl rfl ?_)))
  exact ⟨rfl, H.pick [] (by decide)⟩
 have hF := zS c476 hF
 refine (zX (zA (hK462 _ _ ?_)))
 refine zC fun K478 hK478 => ?_
 refine zB ?_
 refine zI (.int .i64 0) ?_
 refine (zD (zA (hK478 _ _ ?_)))
 obtain rfl := someI hF
 refine (yB (post1 (v1 := .int .i64 0) rfl rfl ?_))
 exact ⟨rfl, H.pick [] (by decide)⟩
abbrev S_ref6_nodesFault (f : Cond → Option Int) : Prop := ∀ (p0 : Cond) (v1 : Value) (r : Int) (_ : f p0 = some r) (O S : List Nat) (w : World) (_ : Hd O w w S [.fz (.sl rCond v1 p0.Kids)]),
  Calls Tryz.prog 85 ([.agg [.int .i64 p0.Kind, .string (bs p0.Name), .string (bs p0.Other), .int .i64 p0.Op, .int .i64 p0.N, .int .i64 p0.Frames, v1].toArray] : List Value).toArray w fun e w' => e = .returned (.int .i64 r) ∧ Hd O w w' S []
set_option maxHeartbeats 4000000 in
theorem F_ref6_nodesFault_B_w (rfG : Cond → Option Int) (rhG : S_ref6_nodesFault rfG) (p0 : Cond) (v1 : Value) (r : Int) (hF : F_ref6_nodesFault_B rfG p0 = some r) (O S : List Nat) (w : World) (H : Hd O w w S [.fz (.sl rCond v1 p0.Kids)]) :
  Calls Tryz.prog 85 ([.agg [.int .i64 p0.Kind, .string (bs p0.Name), .string (bs p0.Other), .int .i64 p0.Op, .int .i64 p0.N, .int .i64 p0.Frames, v1].toArray] : List Value).toArray w fun e w' => e = .returned (.int .i64 r) ∧ Hd O w w' S [] := by
 unfold F_ref6_nodesFault_B at hF
 refine zY 25 Tryz.func85 rfl rfl rfl ?_
 refine zC fun K3 hK3 => ?_
 refine zB ?_
 refine yZ rfl rfl (wF (cs := [.int .i64 p0.Kind, .string (bs p0.Name), .string (bs p0.Other), .int .i64 p0.Op, .int .i64 p0.N, .int .i64 p0.Frames, v1]) rfl H) ?_
 rintro _ w6 ⟨b4, rfl, H⟩
 refine zI (.int .i64 0) ?_
 refine (zD (zA (hK3 _ _ ?_)))
 refine zC fun K7 hK7 => ?_
 refine zB ?_
 refine zH (yN (yJ (cs := [.int .i64 p0.Kind, .string (bs p0.Name), .string (bs p0.Other), .int .i64 p0.Op, .int .i64 p0.N, .int .i64 p0.Frames, v1]) agg70 rfl sz70 rfl (Blk.cells (H.item (i := 1) rfl))) rfl) ?_
 have H8 := H
 obtain ⟨x9, e10, hF⟩ := zG hF
 refine zZ rfl rfl (zT en143 rfl) (F_ref6_nodeFault_w p0 v1 _ e10 _ _ _ (H.enter [] [0] (by decide) rfl)) ?_
 rintro _ w11 ⟨rfl, G12⟩
 have H := H8.step (G12.only : Only [] _ _)
 refine ⟨_, rfl, ?_⟩
 refine zI (.int .i64 x9) ?_
 refine (zD (zA (hK7 _ _ ?_)))
 obtain ⟨g166, hF, hK168⟩ := zG hF
 refine yL [3, 4, 7, 8, 9, 10, 11, 12, 13, 14, 15, 16, 17, 18, 19, 20, 21, 22, 23] (fun (g : Unit) => [(3, .int .i64 g166)]) (fun g wl => Hd O w wl S []) ?_ ?_
 ·skip
  refine zC fun K169 hK169 => ?_
  refine zB ?_
  refine zI (.int .i64 0) ?_
  refine (zD (zA (hK169 _ _ ?_)))
  refine yG ?_
  unfold F_ref6_nodesFault_B_L1 at hF
  obtain ⟨B318, n319, eB320, hF⟩ := yS hF
  refine xE [3, 4, 7, 8, 9, 10, 11, 12, 13, 14, 15, 16, 17, 18, 19, 20, 21, 22, 23] (fun (g : Nat × Int × Int) => [(3, .int .i64 g.2.1), (4, .int .i64 g.2.2)]) (fun g wl => Hd O w wl S [.fz (.sl rCond v1 p0.Kids), .blk b4 [.int .i64 p0.Kind, .string (bs p0.Name), .string (bs p0.Other), .int .i64 p0.Op, .int .i64 p0.N, .int .i64 p0.Frames, v1] 70] ∧ loopN B318 g.1 (g.2.1, g.2.2) = some g166) (fun g => g.1) (n319, x9, 0) (zJ rfl (zJ rfl zL)) ⟨H.pick [0, 1] (by decide), hF⟩ ?_
  clear H hF
  rintro ⟨n319, g316, g317⟩ ρ w322 ⟨H, hF⟩
  obtain ⟨n323, rfl, hF⟩ := yX hF
  have hF := yY eB320 hF
  refine zC fun K338 hK338 => ?_
  obtain ⟨g349, hF, hK351⟩ := zG hF
  refine yL [7, 8, 9, 10, 11, 12, 13, 14, 15] (fun (g : Unit) => [(15, .bool g349)]) (fun g wl => Hd O w wl S [.fz (.sl rCond v1 p0.Kids), .blk b4 [.int .i64 p0.Kind, .string (bs p0.Name), .string (bs p0.Other), .int .i64 p0.Op, .int .i64 p0.N, .int .i64 p0.Frames, v1] 70]) ?_ ?_
  ·skip
   refine zB ?_
   refine zK (.int .i64 g317) ?_
   refine zH (fa70_6 rfl) ?_
   refine zH (zO one68 rfl (Cells.get (Blk.cells (H.item (i := 1) rfl)) (i := 6) rfl)) ?_
   obtain ⟨x352, e353, hF⟩ := zF hF
   obtain ⟨a354, c355, q356⟩ := SlF.len ((H.item (i := 0) rfl))
   refine zH (yN (xM u68 q356) (congrArg (Value.int .i64) e353)) ?_
   obtain ⟨x357, e358, hF⟩ := zF hF
   refine zH (zM (xI (a := g317) (b := x352) rfl rfl) e358) ?_
   refine yK (b := x357) rfl rfl rfl (fun c359 => ?_) (fun c359 => ?_)
   ·have hF := zQ c359 hF
    refine zK (.int .i64 g316) ?_
    obtain ⟨x360, e361, hF⟩ := zF hF
    refine zH (zM (yR (a := g316) (b := 0) rfl rfl) e361) ?_
    refine zH (yI (v := .bool x360) rfl rfl) ?_
    obtain rfl := someI hF
    exact (zD (zA (meet ⟨(), (zJ rfl zL), H.pick [0, 1] (by decide)⟩)))
   have hF := zS c359 hF
   refine yC ?_
   refine yC ?_
   refine zH (yF (v := .bool false) rfl rfl) ?_
   obtain rfl := someI hF
   exact (zD (zA (meet ⟨(), (zJ rfl zL), H.pick [0, 1] (by decide)⟩)))
  rintro _ ρ w350 H
  have hF := hK351
  refine yA (b := g349) rfl (fun c362 => ?_) (fun c362 => ?_)
  ·have hF := zQ c362 hF
   refine (zX (zA (hK338 _ _ ?_)))
   refine zC fun K383 hK383 => ?_
   refine yG ?_
   refine zB ?_
   refine zH (fa70_6 rfl) ?_
   refine zH (zO one68 rfl (Cells.get (Blk.cells (H.item (i := 1) rfl)) (i := 6) rfl)) ?_
   refine zK (.int .i64 g317) ?_
   obtain ⟨x384, e385, hF⟩ := zG hF
   obtain ⟨b386, o387, c388, cs389, q390, h393, h391, h392, h394⟩ := rd_at (H.item (i := 0) rfl) e385
   obtain ⟨v395, rfl, h396⟩ := wI h393
   have H := H.fzs [.at b386 (o387 + g317.toNat * 7) _, .sl rCond v395 x384.Kids] ⟨⟨h391, h392, h394⟩, h396, trivial⟩
   refine zH (wC u68 sz70 q390 rfl (yP e385).1 (yP e385).2.1 rfl rfl) ?_
   refine zH (yN (yJ (cs := [.int .i64 x384.Kind, .string (bs x384.Name), .string (bs x384.Other), .int .i64 x384.Op, .int .i64 x384.N, .int .i64 x384.Frames, v395]) agg70 rfl sz70 rfl (H.item (i := 2) rfl).2.2) rfl) ?_
   have H399 := H
   obtain ⟨x400, e401, hF⟩ := zG hF
   refine zZ rfl rfl (zT en85 rfl) (rhG x384 v395 _ e401 _ _ _ (H.enter [] [3] (by decide) rfl)) ?_
   rintro _ w402 ⟨rfl, G403⟩
   have H := H399.step (G403.only : Only [] _ _)
   refine ⟨_, rfl, ?_⟩
   refine zI (.int .i64 x400) ?_
   refine (zD (yT (zA (hK383 _ _ ?_))))
   refine zB ?_
   refine zK (.int .i64 g317) ?_
   obtain ⟨x404, e405, hF⟩ := zF hF
   refine zH (xP (a := g317) (b := 1) rfl rfl e405) ?_
   refine zI (.int .i64 x404) ?_
   exact (zD (zA (meet ⟨(n323, x400, x404), (zJ rfl (zJ rfl zL)), ⟨H.pick [0, 1] (by decide), hF⟩, Nat.lt_succ_self _⟩)))
  have hF := zS c362 hF
  obtain rfl := someI hF
  exact (xJ (yO (yO (xB (zA (meet ⟨(), (zJ rfl zL), H.pick [] (by decide)⟩))))))
 rintro _ ρ w167 H
 have hF := hK168
 refine zC fun K406 hK406 => ?_
 refine zB ?_
 refine zK (.int .i64 g166) ?_
 refine zI (.int .i64 g166) ?_
 refine (zD (zA (hK406 _ _ ?_)))
 obtain rfl := someI hF
 refine (yB (post1 (v1 := .int .i64 g166) rfl rfl ?_))
 exact ⟨rfl, H.pick [] (by decide)⟩
theorem F_ref6_nodesFault_s : S_ref6_nodesFault (F_ref6_nodesFault) := by
 have h : ∀ n, S_ref6_nodesFault (F_ref6_nodesFault_R n) := by
  intro n
  induction n with
  | zero => intro p0 v1 r hF; cases hF
  | succ n ih => intro p0 v1 r hF; exact F_ref6_nodesFault_B_w (F_ref6_nodesFault_R n) ih p0 v1 r hF
 exact h FU
set_option maxHeartbeats 4000000 in
theorem F_ref6_CheckCond_w (p0 : Cond) (v1 : Value) (r : Int) (hF : F_ref6_CheckCond p0 = some r) (O S : List Nat) (w : World) (H : Hd O w w S [.fz (.sl rCond v1 p0.Kids)]) :
  Calls Tryz.prog 30 ([.agg [.int .i64 p0.Kind, .string (bs p0.Name), .string (bs p0.Other), .int .i64 p0.Op, .int .i64 p0.N, .int .i64 p0.Frames, v1].toArray] : List Value).toArray w fun e w' => e = .returned (.int .i64 r) ∧ Hd O w w' S [] := by
 unfold F_ref6_CheckCond at hF
 refine zY 12 Tryz.func30 rfl rfl rfl ?_
 refine zC fun K3 hK3 => ?_
 refine zB ?_
 refine yZ rfl rfl (wF (cs := [.int .i64 p0.Kind, .string (bs p0.Name), .string (bs p0.Other), .int .i64 p0.Op, .int .i64 p0.N, .int .i64 p0.Frames, v1]) rfl H) ?_
 rintro _ w6 ⟨b4, rfl, H⟩
 refine zI (.int .i64 0) ?_
 refine (zD (zA (hK3 _ _ ?_)))
 refine zC fun K25 hK25 => ?_
 obtain ⟨g39, hF, hK41⟩ := zG hF
 refine yL [3, 4, 5, 6, 7, 8, 9] (fun (g : Unit) => [(9, .bool g39)]) (fun g wl => Hd O w wl S [.fz (.sl rCond v1 p0.Kids), .blk b4 [.int .i64 p0.Kind, .string (bs p0.Name), .string (bs p0.Other), .int .i64 p0.Op, .int .i64 p0.N, .int .i64 p0.Frames, v1] 70]) ?_ ?_
 ·skip
  refine zB ?_
  refine zH (yN (yJ (cs := [.int .i64 p0.Kind, .string (bs p0.Name), .string (bs p0.Other), .int .i64 p0.Op, .int .i64 p0.N, .int .i64 p0.Frames, v1]) agg70 rfl sz70 rfl (Blk.cells (H.item (i := 1) rfl))) rfl) ?_
  have H42 := H
  obtain ⟨x43, e44, hF⟩ := zG hF
  refine zZ rfl rfl (zT en83 rfl) (F_ref6_nodes_s p0 200 v1 _ e44 _ _ _ (H.enter [] [0] (by decide) rfl)) ?_
  rintro _ w45 ⟨rfl, G46⟩
  have H := H42.step (G46.only : Only [] _ _)
  refine ⟨_, rfl, ?_⟩
  obtain ⟨x47, e48, hF⟩ := zF hF
  refine zH (zM (Do_gtr (a := x43) (b := 200) rfl rfl) e48) ?_
  refine yK (b := x47) rfl rfl rfl (fun c49 => ?_) (fun c49 => ?_)
  ·have hF := zQ c49 hF
   refine yC ?_
   refine yC ?_
   refine zH (yI (v := .bool true) rfl rfl) ?_
   obtain rfl := someI hF
   exact (zD (zA (meet ⟨(), (zJ rfl zL), H.pick [0, 1] (by decide)⟩)))
  have hF := zS c49 hF
  refine zH (yN (yJ (cs := [.int .i64 p0.Kind, .string (bs p0.Name), .string (bs p0.Other), .int .i64 p0.Op, .int .i64 p0.N, .int .i64 p0.Frames, v1]) agg70 rfl sz70 rfl (Blk.cells (H.item (i := 1) rfl))) rfl) ?_
  have H50 := H
  obtain ⟨x51, e52, hF⟩ := zG hF
  refine zZ rfl rfl (zT en84 rfl) (F_ref6_deeper_s p0 20 v1 _ e52 _ _ _ (H.enter [] [0] (by decide) rfl)) ?_
  rintro _ w53 ⟨rfl, G54⟩
  have H := H50.step (G54.only : Only [] _ _)
  refine ⟨_, rfl, ?_⟩
  refine zH (yF (v := .bool x51) rfl rfl) ?_
  obtain rfl := someI hF
  exact (zD (zA (meet ⟨(), (zJ rfl zL), H.pick [0, 1] (by decide)⟩)))
 rintro _ ρ w40 H
 have hF := hK41
 refine yA (b := g39) rfl (fun c55 => ?_) (fun c55 => ?_)
 ·have hF := zQ c55 hF
  refine zC fun K56 hK56 => ?_
  refine zB ?_
  refine zI (.int .i64 3) ?_
  refine (zD (zA (hK56 _ _ ?_)))
  obtain rfl := someI hF
  refine (yB (zW (post1 (v1 := .int .i64 3) rfl rfl ?_)))
  exact ⟨rfl, H.pick [] (by decide)⟩
 have hF := zS c55 hF
 refine (zX (zA (hK25 _ _ ?_)))
 refine zC fun K57 hK57 => ?_
 refine zB ?_
 refine zH (yN (yJ (cs := [.int .i64 p0.Kind, .string (bs p0.Name), .string (bs p0.Other), .int .i64 p0.Op, .int .i64 p0.N, .int .i64 p0.Frames, v1]) agg70 rfl sz70 rfl (Blk.cells (H.item (i := 1) rfl))) rfl) ?_
 have H58 := H
 obtain ⟨x59, e60, hF⟩ := zG hF
 refine zZ rfl rfl (zT en85 rfl) (F_ref6_nodesFault_s p0 v1 _ e60 _ _ _ (H.enter [] [0] (by decide) rfl)) ?_
 rintro _ w61 ⟨rfl, G62⟩
 have H := H58.step (G62.only : Only [] _ _)
 refine ⟨_, rfl, ?_⟩
 refine zI (.int .i64 x59) ?_
 refine (zD (zA (hK57 _ _ ?_)))
 obtain rfl := someI hF
 refine (yB (post1 (v1 := .int .i64 x59) rfl rfl ?_))
 exact ⟨rfl, H.pick [] (by decide)⟩
set_option maxHeartbeats 4000000 in
theorem F_slices_Index___string_string__w (p0 : List Str) (p1 : Str) (v1 : Value) (r : Int) (hF : F_slices_Index___string_string_ p0 p1 = some r) (O S : List Nat) (w : World) (H : Hd O w w S [.fz (.sl Rp.str v1 p0)]) :
  Calls Tryz.prog 136 ([v1, .string (bs p1)] : List Value).toArray w fun e w' => e = .returned (.int .i64 r) ∧ Hd O w w' S [] := by
 unfold F_slices_Index___string_string_ at hF
 refine zY 19 Tryz.func136 rfl rfl rfl ?_
 refine zC fun K3 hK3 => ?_
 refine zB ?_
 refine zI (.int .i64 0) ?_
 refine (zD (zA (hK3 _ _ ?_)))
 obtain ⟨k108, ek109, hF⟩ := xQ hF
 refine yL [4, 5, 6, 7, 8, 9, 10, 11, 12, 13, 14, 15, 16, 17, 18] (fun (g : Unit) => []) (fun g wl => Hd O w wl S [] ∧ k108 () = some r) ?_ ?_
 ·skip
  refine zC fun K110 hK110 => ?_
  refine zB ?_
  refine zK v1 ?_
  obtain ⟨x111, e112, hF⟩ := zF hF
  obtain ⟨a113, c114, q115⟩ := SlF.len ((H.item (i := 0) rfl))
  refine zH (yN (xM u22 q115) (congrArg (Value.int .i64) e112)) ?_
  refine zK (.int .i64 0) ?_
  refine (zD (zA (hK110 _ _ ?_)))
  refine yG ?_
  unfold F_slices_Index___string_string__L1 at hF
  obtain ⟨B208, n209, eB210, hF⟩ := yS hF
  refine xE [4, 5, 8, 9, 10, 11, 12, 13, 14, 15, 16, 17, 18] (fun (g : Nat × Int) => [(8, .int .i64 g.2)]) (fun g wl => Hd O w wl S [.fz (.sl Rp.str v1 p0)] ∧ loopN B208 g.1 g.2 = some r) (fun g => g.1) (n209, 0) (zJ rfl zL) ⟨H.pick [0] (by decide), hF⟩ ?_
  clear H hF
  rintro ⟨n209, g207⟩ ρ w212 ⟨H, hF⟩
  obtain ⟨n213, rfl, hF⟩ := yX hF
  have hF := yY eB210 hF
  refine zC fun K214 hK214 => ?_
  refine zB ?_
  obtain ⟨x215, e216, hF⟩ := zF hF
  refine zH (zM (xI (a := g207) (b := x111) rfl rfl) e216) ?_
  refine (zD (zA (hK214 _ _ ?_)))
  refine zC fun K218 hK218 => ?_
  refine yA (b := x215) rfl (fun c219 => ?_) (fun c219 => ?_)
  ·have hF := zQ c219 hF
   refine (zX (zA (hK218 _ _ ?_)))
   refine zC fun K238 hK238 => ?_
   refine yG ?_
   refine zC fun K239 hK239 => ?_
   refine zB ?_
   refine zK (.int .i64 g207) ?_
   refine zI (.int .i64 g207) ?_
   refine (zD (zA (hK239 _ _ ?_)))
   refine zC fun K240 hK240 => ?_
   refine zB ?_
   refine zK (.string (bs p1)) ?_
   refine zK v1 ?_
   refine zK (.int .i64 g207) ?_
   obtain ⟨x241, e242, hF⟩ := zG hF
   obtain ⟨b243, o244, c245, cs246, q247, h250, h248, h249, h251⟩ := rd_at (H.item (i := 0) rfl) e242
   obtain rfl : cs246 = [.string (bs x241)] := h250
   have H := H.fz (.at b243 (o244 + g207.toNat * 1) _) ⟨h248, h249, h251⟩
   refine zH (wC u22 sz9 q247 rfl (yP e242).1 (yP e242).2.1 rfl rfl) ?_
   refine zH (zO one9 rfl (Cells.get (H.item (i := 1) rfl).2.2 (i := 0) rfl)) ?_
   obtain ⟨x253, e254, hF⟩ := zF hF
   refine zH (zM (xW (s1 := p1) (s2 := x241) rfl rfl) e254) ?_
   refine (zD (zA (hK240 _ _ ?_)))
   refine yA (b := x253) rfl (fun c255 => ?_) (fun c255 => ?_)
   ·have hF := zQ c255 hF
    refine zC fun K256 hK256 => ?_
    refine zB ?_
    refine zK (.int .i64 g207) ?_
    refine zI (.int .i64 g207) ?_
    refine (zD (zA (hK256 _ _ ?_)))
    obtain rfl := someI hF
    refine (yB (yE (zW (zW (yE (zW (post1 (v1 := .int .i64 g207) rfl rfl ?_)))))))
    exact ⟨rfl, H.pick [] (by decide)⟩
   have hF := zS c255 hF
   refine (zX (yT (zA (hK238 _ _ ?_))))
   refine zB ?_
   obtain ⟨x257, e258, hF⟩ := zF hF
   refine zH (xP (a := g207) (b := 1) rfl rfl e258) ?_
   refine zK (.int .i64 x257) ?_
   exact (zD (zA (meet ⟨(n213, x257), (zJ rfl zL), ⟨H.pick [0] (by decide), hF⟩, Nat.lt_succ_self _⟩)))
  have hF := zS c219 hF
  exact (xJ (yO (yO (xB (zA (meet ⟨(), zL, ⟨H.pick [] (by decide), hF⟩⟩))))))
 rintro _ ρ w107 ⟨H, hF⟩
 have hF := wB ek109 hF
 refine zC fun K259 hK259 => ?_
 refine zB ?_
 refine zI (.int .i64 (-1)) ?_
 refine (zD (zA (hK259 _ _ ?_)))
 obtain rfl := someI hF
 refine (yB (post1 (v1 := .int .i64 (-1)) rfl rfl ?_))
 exact ⟨rfl, H.pick [] (by decide)⟩
set_option maxHeartbeats 4000000 in
theorem F_slices_Contains___string_string__w (p0 : List Str) (p1 : Str) (v1 : Value) (r : Bool) (hF : F_slices_Contains___string_string_ p0 p1 = some r) (O S : List Nat) (w : World) (H : Hd O w w S [.fz (.sl Rp.str v1 p0)]) :
  Calls Tryz.prog 87 ([v1, .string (bs p1)] : List Value).toArray w fun e w' => e = .returned (.bool r) ∧ Hd O w w' S [] := by
 unfold F_slices_Contains___string_string_ at hF
 refine zY 9 Tryz.func87 rfl rfl rfl ?_
 refine zC fun K3 hK3 => ?_
 refine zB ?_
 refine zI (.bool false) ?_
 refine (zD (zA (hK3 _ _ ?_)))
 refine zC fun K4 hK4 => ?_
 refine zB ?_
 refine zK v1 ?_
 refine zK (.string (bs p1)) ?_
 have H5 := H
 obtain ⟨x6, e7, hF⟩ := zG hF
 refine zZ rfl rfl (zT en136 rfl) (F_slices_Index___string_string__w p0 p1 v1 _ e7 _ _ _ (H.enter [] [0] (by decide) rfl)) ?_
 rintro _ w8 ⟨rfl, G9⟩
 have H := H5.step (G9.only : Only [] _ _)
 refine ⟨_, rfl, ?_⟩
 obtain ⟨x10, e11, hF⟩ := zF hF
 refine zH (zM (Do_geq (a := x6) (b := 0) rfl rfl) e11) ?_
 refine zI (.bool x10) ?_
 refine (zD (zA (hK4 _ _ ?_)))
 obtain rfl := someI hF
 refine (yB (post1 (v1 := .bool x10) rfl rfl ?_))
 exact ⟨rfl, H.pick [] (by decide)⟩
set_option maxHeartbeats 4000000 in
theorem F_event_checkMove_1_w (p0 : Cond) (v1 : Value) (r : Int) (hF : F_event_checkMove_1 p0 = some r) (O S : List Nat) (w : World) (H : Hd O w w S [.fz (.sl rCond v1 p0.Kids)]) :
  Calls Tryz.prog 146 ([.agg [.int .i64 p0.Kind, .string (bs p0.Name), .string (bs p0.Other), .int .i64 p0.Op, .int .i64 p0.N, .int .i64 p0.Frames, v1].toArray] : List Value).toArray w fun e w' => e = .returned (.int .i64 r) ∧ Hd O w w' S [] := by
 unfold F_event_checkMove_1 at hF
 refine zY 11 Tryz.func146 rfl rfl rfl ?_
 refine zC fun K3 hK3 => ?_
 refine zB ?_
 refine yZ rfl rfl (wF (cs := [.int .i64 p0.Kind, .string (bs p0.Name), .string (bs p0.Other), .int .i64 p0.Op, .int .i64 p0.N, .int .i64 p0.Frames, v1]) rfl H) ?_
 rintro _ w6 ⟨b4, rfl, H⟩
 refine zI (.int .i64 0) ?_
 refine (zD (zA (hK3 _ _ ?_)))
 refine zC fun K17 hK17 => ?_
 obtain ⟨g23, hF, hK25⟩ := zG hF
 refine yL [3, 4, 5, 6, 7, 8, 9, 10] (fun (g : Unit) => [(10, .bool g23)]) (fun g wl => Hd O w wl S []) ?_ ?_
 ·skip
  refine zB ?_
  refine zH (fa70_0 rfl) ?_
  refine zH (zO one3 rfl (Cells.get (Blk.cells (H.item (i := 1) rfl)) (i := 0) rfl)) ?_
  obtain ⟨x26, e27, hF⟩ := zF hF
  refine zH (zM (yR (a := p0.Kind) (b := 6) rfl rfl) e27) ?_
  refine yK (b := x26) rfl rfl rfl (fun c28 => ?_) (fun c28 => ?_)
  ·have hF := zQ c28 hF
   refine yC ?_
   refine yC ?_
   refine yC ?_
   refine zH (yI (v := .bool true) rfl rfl) ?_
   obtain rfl := someI hF
   exact (zD (zA (meet ⟨(), (zJ rfl zL), H.pick [] (by decide)⟩)))
  have hF := zS c28 hF
  refine zH (fa70_0 rfl) ?_
  refine zH (zO one3 rfl (Cells.get (Blk.cells (H.item (i := 1) rfl)) (i := 0) rfl)) ?_
  obtain ⟨x29, e30, hF⟩ := zF hF
  refine zH (zM (yR (a := p0.Kind) (b := 7) rfl rfl) e30) ?_
  refine zH (yF (v := .bool x29) rfl rfl) ?_
  obtain rfl := someI hF
  exact (zD (zA (meet ⟨(), (zJ rfl zL), H.pick [] (by decide)⟩)))
 rintro _ ρ w24 H
 have hF := hK25
 refine yA (b := g23) rfl (fun c31 => ?_) (fun c31 => ?_)
 ·have hF := zQ c31 hF
  refine zC fun K32 hK32 => ?_
  refine zB ?_
  refine zI (.int .i64 2) ?_
  refine (zD (zA (hK32 _ _ ?_)))
  obtain rfl := someI hF
  refine (yB (zW (post1 (v1 := .int .i64 2) rfl rfl ?_)))
  exact ⟨rfl, H.pick [] (by decide)⟩
 have hF := zS c31 hF
 refine (zX (zA (hK17 _ _ ?_)))
 refine zC fun K33 hK33 => ?_
 refine zB ?_
 refine zI (.int .i64 0) ?_
 refine (zD (zA (hK33 _ _ ?_)))
 obtain rfl := someI hF
 refine (yB (post1 (v1 := .int .i64 0) rfl rfl ?_))
 exact ⟨rfl, H.pick [] (by decide)⟩
abbrev S_event_each_event_checkMove_1 (f : Cond → Option Int) : Prop := ∀ (p0 : Cond) (v1 : Value) (r : Int) (_ : f p0 = some r) (O S : List Nat) (w : World) (_ : Hd O w w S [.fz (.sl rCond v1 p0.Kids)]),
  Calls Tryz.prog 81 ([.agg [.int .i64 p0.Kind, .string (bs p0.Name), .string (bs p0.Other), .int .i64 p0.Op, .int .i64 p0.N, .int .i64 p0.Frames, v1].toArray, .func (.func 146) #[] #[]] : List Value).toArray w fun e w' => e = .returned (.int .i64 r) ∧ Hd O w w' S []
end Go.Proofs.YtckmiljbaejijaaGreatDoor.L
