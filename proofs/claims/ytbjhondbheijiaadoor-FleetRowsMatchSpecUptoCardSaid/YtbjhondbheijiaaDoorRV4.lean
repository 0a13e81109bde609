/- Walks: what each function computes, for every argument; no condition but those that stand in the statements. -/
import Derived.Test.YtbjhondbheijiaaDoorRV0
import Derived.Test.YtbjhondbheijiaaDoorRV1
import Derived.Test.YtbjhondbheijiaaDoorRV2
import Derived.Test.YtbjhondbheijiaaDoorRV3
namespace Go.Proofs.YtbjhondbheijiaaDoor.L
open Go.RowKit Go.OB Go.Lf
/- orangebox/orangeboxlaw9.FleetRowsMatchSpec -/
set_option maxHeartbeats 4000000 in
theorem F_law9_FleetRowsMatchSpec_w (p0 : List FleetRow) (p1 : List FleetRow) (p2 : Int) (v1 : Value) (v3 : Value) (r : Bool) (hF : F_law9_FleetRowsMatchSpec p0 p1 p2 = some r) (O S : List Nat) (w : World) (H : Hd O w w S [.fz (.sl rFleetRow v1 p0), .fz (.sl rFleetRow v3 p1), .fz (.at 0 0 ((Fl.arr 20 (Fl.int .u64)).f G_internal_strconv_uint64pow10))]) :
    Calls Tryd.prog 3 ([v1, v3, .int .i64 p2] : List Value).toArray w fun e w' => e = .returned (.bool r) ∧ Hd O w w' S [] := by
  unfold F_law9_FleetRowsMatchSpec at hF
  refine calls_of_WP 101 Tryd.func3 rfl rfl rfl ?_
  refine WP_seq_k fun K6 hK6 => ?_
  refine WP_region ?_
  refine RL_do rfl rfl (Do_assign (v := .bool false) rfl) ?_
  refine (RL_nil (thenQ_n (hK6 _ _ ?_)))
  refine WP_seq_k fun K7 hK7 => ?_
  refine WP_region ?_
  refine RL_do rfl rfl (Do_move (v := v1) rfl) ?_
  obtain ⟨⟨x8, x9⟩, e10, hF⟩ := bindO_some hF
  refine RL_call rfl rfl (DoC_func en5 rfl) (F_fleet_Total_w p0 v1 _ e10 _ _ _ (H.enter [] [0] (by decide) rfl)) ?_
  rintro _ w13 ⟨v11, rfl, G14⟩
  have H := H.back1 [0] rfl G14
  refine ⟨_, rfl, ?_⟩
  refine RL_do rfl rfl (Do_move (v := .tuple #[.agg [.string (bs x8.Key), .bool x8.Hidden, .int .i64 x8.Flights, v11].toArray, .int .i64 x9]) rfl) ?_
  refine RL_do rfl rfl (Do_extract (v := .agg [.string (bs x8.Key), .bool x8.Hidden, .int .i64 x8.Flights, v11].toArray) rfl rfl) ?_
  refine RL_do rfl rfl (Do_extract (v := .int .i64 x9) rfl rfl) ?_
  refine RL_ex rfl rfl (Lx_alloc zero25 H) ?_
  rintro _ w17 ⟨b15, rfl, H⟩
  refine RL_exU rfl (Lx_storeN (vs := [.string (bs x8.Key), .bool x8.Hidden, .int .i64 x8.Flights, v11]) H 4 rfl sz25 rfl rfl rfl ⟨rfl, rfl, rfl, (slf_one (H.item (i := 3) rfl)), trivial⟩ rfl) ?_
  rintro w18 H
  refine RL_do rfl rfl (Do_assign (v := .int .i64 x9) rfl) ?_
  refine (RL_nil (thenQ_n (hK7 _ _ ?_)))
  refine WP_seq_k fun K19 hK19 => ?_
  refine WP_region ?_
  refine RL_do rfl rfl (Do_move (v := v1) rfl) ?_
  obtain ⟨⟨x20, x21⟩, e22, hF⟩ := bindO_some hF
  refine RL_call rfl rfl (DoC_func en6 rfl) (F_ref9_Total_w p0 v1 _ e22 _ _ _ (H.enter [] [0] (by decide) rfl)) ?_
  rintro _ w25 ⟨v23, rfl, G26⟩
  have H := H.back1 [0] rfl G26
  refine ⟨_, rfl, ?_⟩
  refine RL_do rfl rfl (Do_move (v := .tuple #[.agg [.string (bs x20.Key), .bool x20.Hidden, .int .i64 x20.Flights, v23].toArray, .int .i64 x21]) rfl) ?_
  refine RL_do rfl rfl (Do_extract (v := .agg [.string (bs x20.Key), .bool x20.Hidden, .int .i64 x20.Flights, v23].toArray) rfl rfl) ?_
  refine RL_do rfl rfl (Do_extract (v := .int .i64 x21) rfl rfl) ?_
  refine RL_ex rfl rfl (Lx_alloc zero25 H) ?_
  rintro _ w29 ⟨b27, rfl, H⟩
  refine RL_exU rfl (Lx_storeN (vs := [.string (bs x20.Key), .bool x20.Hidden, .int .i64 x20.Flights, v23]) H 6 rfl sz25 rfl rfl rfl ⟨rfl, rfl, rfl, (slf_one (H.item (i := 5) rfl)), trivial⟩ rfl) ?_
  rintro w30 H
  refine RL_do rfl rfl (Do_assign (v := .int .i64 x21) rfl) ?_
  refine (RL_nil (thenQ_n (hK19 _ _ ?_)))
  refine WP_seq_k fun K69 hK69 => ?_
  obtain ⟨g103, hF, hK105⟩ := bindO_some hF
  refine WP_seqS [27, 28, 29, 30, 31, 32, 33, 34, 35, 36, 37, 38, 39, 40, 41, 42] (fun (g : Unit) => [(42, .bool g103)]) (fun g wl => Hd O w wl S [.fz (.sl rFleetRow v1 p0), .fz (.sl rFleetRow v3 p1), .fz (.at 0 0 ((Fl.arr 20 (Fl.int .u64)).f G_internal_strconv_uint64pow10))]) ?_ ?_
  · skip
    have H106 := H
    have H := H.rebase
    have H107 := H
    refine WP_mixM H [0, 1, 2, 3, 4, 5, 6, 8, 10, 12, 7, 9, 11, 13, 14, 15] [.pure, .read, .pure, .read, .pure, .pure, .read, .mk (World.heap w30).size, .pure, .read, .read, .mk (World.heap w30).size, .pure, .read, .pure, .pure] ⟨trivial, trivial, trivial, trivial, trivial, trivial, trivial, rfl, trivial, trivial, trivial, rfl, trivial, trivial, trivial, trivial, trivial⟩ mixed (by kernel_rfl) (by kernel_rfl) (by kernel_rfl) (by decide) ?_
    have H := H.hm
    refine MxM.XL_pure rfl rfl rfl (fun w' hw' => Do_move (v := v1) rfl) ?_
    have H108 := H
    have H := H.hd
    obtain ⟨x109, e110, hF⟩ := bindO_some hF
    refine MxM.XL_call oS rfl rfl rfl (v := .int .i64 x109) (fun w' hw' => DoC_func en7 rfl) (fun w' hw' => call_read (F_fleet_CheckTable_w p0 v1 _ e110 _ _ _ ((H.sees hw').enter [] [0] (by decide) rfl))) ?_
    have H := H108
    refine MxM.XL_pure rfl rfl rfl (fun w' hw' => Do_move (v := v1) rfl) ?_
    have H111 := H
    have H := H.hd
    obtain ⟨x112, e113, hF⟩ := bindO_some hF
    refine MxM.XL_call oS rfl rfl rfl (v := .int .i64 x112) (fun w' hw' => DoC_func en8 rfl) (fun w' hw' => call_read (F_ref9_CheckTable_w p0 v1 _ e113 _ _ _ ((H.sees hw').enter [] [0] (by decide) rfl))) ?_
    have H := H111
    obtain ⟨x114, e115, hF⟩ := letO_some hF
    refine MxM.XL_pure rfl rfl rfl (fun w' hw' => Do_as (Do_neq (a := x109) (b := x112) rfl rfl) (congrArg Value.bool e115)) ?_
    refine MxM.XL_splitb (b := x114) rfl rfl rfl rfl (fun c116 => ?_) (fun c116 => ?_)
    · have hF := iteB_t c116 hF
      refine MxM.XL_offr oS rfl rfl rfl ?_
      refine MxM.XL_offp rfl rfl rfl ?_
      refine MxM.XL_offr oS rfl rfl rfl ?_
      refine MxM.XL_offp rfl rfl rfl ?_
      refine MxM.XL_offm oS rfl rfl rfl ?_
      refine MxM.XL_offr oS rfl rfl rfl ?_
      refine MxM.XL_offm oS rfl rfl rfl ?_
      have H := H.hd
      refine MxM.XL_offr oS rfl rfl rfl ?_
      refine MxM.XL_offp rfl rfl rfl ?_
      refine MxM.XL_pure rfl rfl rfl (fun w' hw' => Do_pick_t (v := .bool true) rfl rfl) ?_
      refine MxM.XL_nil fun w117 hS => ?_
      have H := H.sees hS
      have H := H106.rejoin H
      have hR := Option.some.inj hF
      subst hR
      refine (thenQ_n (And.intro ?_ ?_))
      · repeat' (first | with_reducible exact Fr_refl | refine Fr_upd rfl ?_ | refine Fr_over rfl rfl ?_)
      · exact ⟨(), (Sl_cons rfl Sl_nil), H.pick [0, 1, 2] (by decide)⟩
    · have hF := iteB_f c116 hF
      refine MxM.XL_read oS rfl rfl rfl (fun w' hw' => Do_as (Do_loads (cs := [.string (bs x8.Key), .bool x8.Hidden, .int .i64 x8.Flights, v11]) agg25 rfl sz25 rfl (Blk.cells ((H.sees hw').item (i := 4) rfl))) rfl) ?_
      refine MxM.XL_pure rfl rfl rfl (fun w' hw' => Do_move (v := .int .i64 x9) rfl) ?_
      refine MxM.XL_read oS rfl rfl rfl (fun w' hw' => Do_as (Do_loads (cs := [.string (bs x20.Key), .bool x20.Hidden, .int .i64 x20.Flights, v23]) agg25 rfl sz25 rfl (Blk.cells ((H.sees hw').item (i := 6) rfl))) rfl) ?_
      refine MxM.XL_pure rfl rfl rfl (fun w' hw' => Do_move (v := .int .i64 x21) rfl) ?_
      obtain ⟨x118, e119, hF⟩ := letO_some hF
      subst e119
      refine H.bs_rule (r := rFleetRow) (xl := [x8]) (cs := [.string (bs x8.Key), .bool x8.Hidden, .int .i64 x8.Flights, v11]) rfl rfl rfl rfl u22 el25 (by decide) (by decide) rfl (fillB_parts (vs := [.agg [.string (bs x8.Key), .bool x8.Hidden, .int .i64 x8.Flights, v11].toArray]) (by decide) rfl rfl ⟨rfl, trivial⟩ rfl) ⟨[.string (bs x8.Key), .bool x8.Hidden, .int .i64 x8.Flights, v11], [], rfl, (rFleetRow_mk (x := x8) (H.item (i := 3) rfl)), rfl⟩ ?_
      rintro v121 b122 w123 H
      have H124 := H
      have H := H.hd
      have H := H.freeze (i := 7) rfl
      obtain ⟨x125, e126, hF⟩ := bindO_some hF
      refine MxM.XL_call oS rfl rfl rfl (v := .string (bs x125)) (fun w' hw' => DoC_func en9 rfl) (fun w' hw' => call_read (F_law9_rows_w ([x8] : List FleetRow) x9 v121 _ e126 _ _ _ ((H.sees hw').enter [] [7, 2] (by decide) rfl))) ?_
      have H := H124
      obtain ⟨x127, e128, hF⟩ := letO_some hF
      subst e128
      refine H.bs_rule (r := rFleetRow) (xl := [x20]) (cs := [.string (bs x20.Key), .bool x20.Hidden, .int .i64 x20.Flights, v23]) rfl rfl rfl rfl u22 el25 (by decide) (by decide) rfl (fillB_parts (vs := [.agg [.string (bs x20.Key), .bool x20.Hidden, .int .i64 x20.Flights, v23].toArray]) (by decide) rfl rfl ⟨rfl, trivial⟩ rfl) ⟨[.string (bs x20.Key), .bool x20.Hidden, .int .i64 x20.Flights, v23], [], rfl, (rFleetRow_mk (x := x20) (H.item (i := 5) rfl)), rfl⟩ ?_
      rintro v130 b131 w132 H
      have H := H.hd
      have H133 := H
      have H := H.freeze (i := 8) rfl
      obtain ⟨x134, e135, hF⟩ := bindO_some hF
      refine MxM.XL_call oS rfl rfl rfl (v := .string (bs x134)) (fun w' hw' => DoC_func en9 rfl) (fun w' hw' => call_read (F_law9_rows_w ([x20] : List FleetRow) x21 v130 _ e135 _ _ _ ((H.sees hw').enter [] [8, 2] (by decide) rfl))) ?_
      have H := H133
      obtain ⟨x136, e137, hF⟩ := letO_some hF
      refine MxM.XL_pure rfl rfl rfl (fun w' hw' => Do_as (Do_neqs (s1 := x125) (s2 := x134) rfl rfl) (congrArg Value.bool e137)) ?_
      refine MxM.XL_pure rfl rfl rfl (fun w' hw' => Do_pick_f (v := .bool x136) rfl rfl) ?_
      refine MxM.XL_nil fun w138 hS => ?_
      have H := H.sees hS
      have H := H106.rejoin H
      have hR := Option.some.inj hF
      subst hR
      refine (thenQ_n (And.intro ?_ ?_))
      · repeat' (first | with_reducible exact Fr_refl | refine Fr_upd rfl ?_ | refine Fr_over rfl rfl ?_)
      · exact ⟨(), (Sl_cons rfl Sl_nil), H.pick [0, 1, 2] (by decide)⟩
  · rintro _ ρ w104 H
    have hF := hK105
    refine WP_ifb (b := g103) rfl (fun c139 => ?_) (fun c139 => ?_)
    · have hF := iteB_t c139 hF
      refine WP_seq_k fun K140 hK140 => ?_
      refine WP_region ?_
      refine RL_do rfl rfl (Do_assign (v := .bool false) rfl) ?_
      refine (RL_nil (thenQ_n (hK140 _ _ ?_)))
      have hR := Option.some.inj hF
      subst hR
      refine (WP_ret (thenQ_r (post1 (v1 := .bool false) rfl rfl ?_)))
      exact ⟨rfl, H.pick [] (by decide)⟩
    · have hF := iteB_f c139 hF
      refine (WP_skip (thenQ_n (hK69 _ _ ?_)))
      refine WP_seq_k fun K141 hK141 => ?_
      refine WP_region ?_
      refine RL_do rfl rfl (Do_build (cs := [.slice none 0 0]) bz34) ?_
      refine RL_ex rfl rfl (Lx_box (cs := [.slice none 0 0]) rfl H) ?_
      rintro _ w144 ⟨b142, rfl, H⟩
      refine RL_do rfl rfl (Do_build (cs := [.slice none 0 0]) bz34) ?_
      refine RL_ex rfl rfl (Lx_box (cs := [.slice none 0 0]) rfl H) ?_
      rintro _ w147 ⟨b145, rfl, H⟩
      refine RL_do rfl rfl (Do_assign (v := .pointer (some ⟨b142, 0, none⟩)) rfl) ?_
      refine RL_do rfl rfl (Do_assign (v := .pointer (some ⟨b145, 0, none⟩)) rfl) ?_
      refine (RL_nil (thenQ_n (hK141 _ _ ?_)))
      refine WP_seq_k fun K148 hK148 => ?_
      refine WP_region ?_
      refine RL_do rfl rfl (Do_move (v := v1) rfl) ?_
      refine RL_do rfl rfl (Do_move (v := v3) rfl) ?_
      refine RL_do rfl rfl (Do_move (v := .int .i64 p2) rfl) ?_
      obtain ⟨⟨x149, x150⟩, e151, hF⟩ := bindO_some hF
      refine RL_call rfl rfl (DoC_func en10 rfl) (F_fleet_Reveals_w p0 p1 p2 v1 v3 _ e151 _ _ _ (H.enter [] [0, 1] (by decide) rfl)) ?_
      rintro _ w154 ⟨v152, rfl, G155⟩
      have H := H.back1 [0, 1] rfl G155
      refine ⟨_, rfl, ?_⟩
      refine RL_do rfl rfl (Do_move (v := .tuple #[v152, .int .i64 x150]) rfl) ?_
      refine RL_do rfl rfl (Do_extract (v := v152) rfl rfl) ?_
      refine RL_do rfl rfl (Do_extract (v := .int .i64 x150) rfl rfl) ?_
      refine RL_do rfl rfl (Do_assign (v := v152) rfl) ?_
      refine RL_do rfl rfl (Do_assign (v := .int .i64 x150) rfl) ?_
      refine (RL_nil (thenQ_n (hK148 _ _ ?_)))
      refine WP_seq_k fun K156 hK156 => ?_
      refine WP_region ?_
      refine RL_do rfl rfl (Do_move (v := v1) rfl) ?_
      refine RL_do rfl rfl (Do_move (v := v3) rfl) ?_
      refine RL_do rfl rfl (Do_move (v := .int .i64 p2) rfl) ?_
      obtain ⟨⟨x157, x158⟩, e159, hF⟩ := bindO_some hF
      refine RL_call rfl rfl (DoC_func en11 rfl) (F_ref9_Reveals_w p0 p1 p2 v1 v3 _ e159 _ _ _ (H.enter [] [0, 1] (by decide) rfl)) ?_
      rintro _ w162 ⟨v160, rfl, G163⟩
      have H := H.back1 [0, 1] rfl G163
      refine ⟨_, rfl, ?_⟩
      refine RL_do rfl rfl (Do_move (v := .tuple #[v160, .int .i64 x158]) rfl) ?_
      refine RL_do rfl rfl (Do_extract (v := v160) rfl rfl) ?_
      refine RL_do rfl rfl (Do_extract (v := .int .i64 x158) rfl rfl) ?_
      refine RL_do rfl rfl (Do_assign (v := v160) rfl) ?_
      refine RL_do rfl rfl (Do_assign (v := .int .i64 x158) rfl) ?_
      refine (RL_nil (thenQ_n (hK156 _ _ ?_)))
      refine WP_seq_k fun K164 hK164 => ?_
      refine WP_region ?_
      refine RL_do rfl rfl (Do_move (v := .pointer (some ⟨b142, 0, none⟩)) rfl) ?_
      refine RL_do rfl rfl (Do_move (v := v152) rfl) ?_
      have H := own_nil H (Rp.int .u8) 5
      have H := H.freeze (i := 5) rfl
      obtain ⟨x166, e167, hF⟩ := bindO_some hF
      refine RL_call rfl rfl (DoC_func en12 rfl) (F_ref0_Ink_Texts_w (Orangeboxref0Ink.mk []) x149 b142 (.slice none 0 0) v152 _ e167 _ _ _ (H.enter [7, 3] [5, 2] (by decide) rfl)) ?_
      rintro _ w170 ⟨v168, rfl, G171⟩
      have H : Hd O _ w170 _ [.fz (.sl rFleetRow v1 p0), .fz (.sl rFleetRow v3 p1), .fz (.at 0 0 ((Fl.arr 20 (Fl.int .u64)).f G_internal_strconv_uint64pow10)), .blk b145 [.slice none 0 0] 34, .fz (.sl Rp.str v152 x149), .own Rp.str v160 9 x157, .own (Rp.int .u8) v168 5 x166.out, .blk b142 [v168] 34] := H.back [7, 3] [5, 2] rfl G171
      refine ⟨_, rfl, ?_⟩
      refine (RL_nil (thenQ_n (hK164 _ _ ?_)))
      refine WP_seq_k fun K172 hK172 => ?_
      refine WP_region ?_
      refine RL_do rfl rfl (Do_move (v := .pointer (some ⟨b145, 0, none⟩)) rfl) ?_
      refine RL_do rfl rfl (Do_move (v := v160) rfl) ?_
      have H := own_nil H (Rp.int .u8) 5
      have H := H.freeze (i := 5) rfl
      obtain ⟨x174, e175, hF⟩ := bindO_some hF
      refine RL_call rfl rfl (DoC_func en12 rfl) (F_ref0_Ink_Texts_w (Orangeboxref0Ink.mk []) x157 b145 (.slice none 0 0) v160 _ e175 _ _ _ (H.enter [8, 3] [5, 2] (by decide) rfl)) ?_
      rintro _ w178 ⟨v176, rfl, G179⟩
      have H : Hd O _ w178 _ [.fz (.sl rFleetRow v1 p0), .fz (.sl rFleetRow v3 p1), .fz (.at 0 0 ((Fl.arr 20 (Fl.int .u64)).f G_internal_strconv_uint64pow10)), .fz (.sl Rp.str v152 x149), .fz (.sl Rp.str v160 x157), .own (Rp.int .u8) v168 5 x166.out, .blk b142 [v168] 34, .own (Rp.int .u8) v176 5 x174.out, .blk b145 [v176] 34] := H.back [8, 3] [5, 2] rfl G179
      refine ⟨_, rfl, ?_⟩
      refine (RL_nil (thenQ_n (hK172 _ _ ?_)))
      refine WP_seq_k fun K180 hK180 => ?_
      refine WP_region ?_
      refine RL_do rfl rfl (Do_move (v := .pointer (some ⟨b142, 0, none⟩)) rfl) ?_
      refine RL_do rfl rfl (Do_move (v := .int .i64 x150) rfl) ?_
      obtain ⟨x181, e182, hF⟩ := bindO_some hF
      refine RL_call rfl rfl (DoC_func en13 rfl) (F_ref0_Ink_Errno_w x166 x150 b142 v168 _ e182 _ _ _ (H.enter [5, 6] [2] (by decide) rfl)) ?_
      rintro _ w185 ⟨v183, rfl, G186⟩
      have H : Hd O _ w185 _ [.fz (.sl rFleetRow v1 p0), .fz (.sl rFleetRow v3 p1), .fz (.at 0 0 ((Fl.arr 20 (Fl.int .u64)).f G_internal_strconv_uint64pow10)), .fz (.sl Rp.str v152 x149), .fz (.sl Rp.str v160 x157), .own (Rp.int .u8) v176 5 x174.out, .blk b145 [v176] 34, .own (Rp.int .u8) v183 5 x181.out, .blk b142 [v183] 34] := H.back [5, 6] [2] rfl G186
      refine ⟨_, rfl, ?_⟩
      refine (RL_nil (thenQ_n (hK180 _ _ ?_)))
      refine WP_seq_k fun K187 hK187 => ?_
      refine WP_region ?_
      refine RL_do rfl rfl (Do_move (v := .pointer (some ⟨b145, 0, none⟩)) rfl) ?_
      refine RL_do rfl rfl (Do_move (v := .int .i64 x158) rfl) ?_
      obtain ⟨x188, e189, hF⟩ := bindO_some hF
      refine RL_call rfl rfl (DoC_func en13 rfl) (F_ref0_Ink_Errno_w x174 x158 b145 v176 _ e189 _ _ _ (H.enter [5, 6] [2] (by decide) rfl)) ?_
      rintro _ w192 ⟨v190, rfl, G193⟩
      have H : Hd O _ w192 _ [.fz (.sl rFleetRow v1 p0), .fz (.sl rFleetRow v3 p1), .fz (.at 0 0 ((Fl.arr 20 (Fl.int .u64)).f G_internal_strconv_uint64pow10)), .fz (.sl Rp.str v152 x149), .fz (.sl Rp.str v160 x157), .own (Rp.int .u8) v183 5 x181.out, .blk b142 [v183] 34, .own (Rp.int .u8) v190 5 x188.out, .blk b145 [v190] 34] := H.back [5, 6] [2] rfl G193
      refine ⟨_, rfl, ?_⟩
      refine (RL_nil (thenQ_n (hK187 _ _ ?_)))
      refine WP_seq_k fun K194 hK194 => ?_
      refine WP_region ?_
      refine RL_do rfl rfl (Do_move (v := v1) rfl) ?_
      have H195 := H
      obtain ⟨⟨x196, x197⟩, e198, hF⟩ := bindO_some hF
      refine RL_call rfl rfl (DoC_func en14 rfl) (F_fleet_Print_w p0 v1 _ e198 _ _ _ (H.enter [] [0, 2] (by decide) rfl)) ?_
      rintro _ w199 ⟨rfl, G200⟩
      have H := H195.step (G200.only : Only [] _ _)
      refine ⟨_, rfl, ?_⟩
      refine RL_do rfl rfl (Do_move (v := .tuple #[.string (bs x196), .int .i64 x197]) rfl) ?_
      refine RL_do rfl rfl (Do_extract (v := .string (bs x196)) rfl rfl) ?_
      refine RL_do rfl rfl (Do_extract (v := .int .i64 x197) rfl rfl) ?_
      refine RL_do rfl rfl (Do_assign (v := .string (bs x196)) rfl) ?_
      refine RL_do rfl rfl (Do_assign (v := .int .i64 x197) rfl) ?_
      refine (RL_nil (thenQ_n (hK194 _ _ ?_)))
      refine WP_seq_k fun K201 hK201 => ?_
      refine WP_region ?_
      refine RL_do rfl rfl (Do_move (v := v1) rfl) ?_
      have H202 := H
      obtain ⟨⟨x203, x204⟩, e205, hF⟩ := bindO_some hF
      refine RL_call rfl rfl (DoC_func en15 rfl) (F_ref9_Print_w p0 v1 _ e205 _ _ _ (H.enter [] [0, 2] (by decide) rfl)) ?_
      rintro _ w206 ⟨rfl, G207⟩
      have H := H202.step (G207.only : Only [] _ _)
      refine ⟨_, rfl, ?_⟩
      refine RL_do rfl rfl (Do_move (v := .tuple #[.string (bs x203), .int .i64 x204]) rfl) ?_
      refine RL_do rfl rfl (Do_extract (v := .string (bs x203)) rfl rfl) ?_
      refine RL_do rfl rfl (Do_extract (v := .int .i64 x204) rfl rfl) ?_
      refine RL_do rfl rfl (Do_assign (v := .string (bs x203)) rfl) ?_
      refine RL_do rfl rfl (Do_assign (v := .int .i64 x204) rfl) ?_
      refine (RL_nil (thenQ_n (hK201 _ _ ?_)))
      obtain ⟨g234, hF, hK236⟩ := bindO_some hF
      refine WP_seqS [6, 83, 84, 85, 86, 87, 88, 89, 90, 91, 92, 93, 94, 95, 96, 97, 98, 99, 100] (fun (g : Unit) => [(6, .bool g234)]) (fun g wl => Hd O w wl S [.fz (.at 0 0 ((Fl.arr 20 (Fl.int .u64)).f G_internal_strconv_uint64pow10))]) ?_ ?_
      · skip
        refine WP_region ?_
        refine RL_do rfl rfl (Do_move (v := .pointer (some ⟨b142, 0, none⟩)) rfl) ?_
        have H237 := H
        have H := H.freezeB (i := 6) rfl
        have H := H.freeze (i := 5) rfl
        have H := H.fz (.pt rOrangeboxref0Ink (some ⟨b142, 0, none⟩) (some x181)) ⟨_, _, _, rfl, (H.item (i := 6) rfl).1, (H.item (i := 6) rfl).2.1, (rOrangeboxref0Ink_mk (x := x181) (H.item (i := 5) rfl)), (H.item (i := 6) rfl).2.2⟩
        obtain ⟨x239, e240, hF⟩ := bindO_some hF
        refine RL_call rfl rfl (DoC_func en16 rfl) (F_ref0_Ink_Told_w (some x181) (some ⟨b142, 0, none⟩) _ e240 _ _ _ (H.enter [] [9] (by decide) rfl)) ?_
        rintro _ w241 ⟨rfl, G242⟩
        have H := H237.step (G242.only : Only [] _ _)
        refine ⟨_, rfl, ?_⟩
        refine RL_do rfl rfl (Do_move (v := .pointer (some ⟨b145, 0, none⟩)) rfl) ?_
        have H243 := H
        have H := H.freezeB (i := 8) rfl
        have H := H.freeze (i := 7) rfl
        have H := H.fz (.pt rOrangeboxref0Ink (some ⟨b145, 0, none⟩) (some x188)) ⟨_, _, _, rfl, (H.item (i := 8) rfl).1, (H.item (i := 8) rfl).2.1, (rOrangeboxref0Ink_mk (x := x188) (H.item (i := 7) rfl)), (H.item (i := 8) rfl).2.2⟩
        obtain ⟨x245, e246, hF⟩ := bindO_some hF
        refine RL_call rfl rfl (DoC_func en16 rfl) (F_ref0_Ink_Told_w (some x188) (some ⟨b145, 0, none⟩) _ e246 _ _ _ (H.enter [] [9] (by decide) rfl)) ?_
        rintro _ w247 ⟨rfl, G248⟩
        have H := H243.step (G248.only : Only [] _ _)
        refine ⟨_, rfl, ?_⟩
        obtain ⟨x249, e250, hF⟩ := letO_some hF
        refine RL_do rfl rfl (Do_as (Do_eqls (s1 := x239) (s2 := x245) rfl rfl) (congrArg Value.bool e250)) ?_
        refine RL_splitb (b := x249) rfl rfl rfl (fun c251 => ?_) (fun c251 => ?_)
        · have hF := iteB_t c251 hF
          refine RL_do rfl rfl (Do_move (v := .string (bs x196)) rfl) ?_
          refine RL_do rfl rfl (Do_move (v := .string (bs x203)) rfl) ?_
          obtain ⟨x252, e253, hF⟩ := letO_some hF
          refine RL_do rfl rfl (Do_as (Do_eqls (s1 := x196) (s2 := x203) rfl rfl) (congrArg Value.bool e253)) ?_
          refine RL_do rfl rfl (Do_pick_t (v := .bool x252) rfl rfl) ?_
          refine RL_splitb (b := x252) rfl rfl rfl (fun c254 => ?_) (fun c254 => ?_)
          · have hF := iteB_t c254 hF
            refine RL_do rfl rfl (Do_move (v := .int .i64 x197) rfl) ?_
            refine RL_do rfl rfl (Do_move (v := .int .i64 x204) rfl) ?_
            obtain ⟨x255, e256, hF⟩ := letO_some hF
            refine RL_do rfl rfl (Do_as (Do_eql (a := x197) (b := x204) rfl rfl) (congrArg Value.bool e256)) ?_
            refine RL_do rfl rfl (Do_pick_t (v := .bool x255) rfl rfl) ?_
            refine RL_splitb (b := x255) rfl rfl rfl (fun c257 => ?_) (fun c257 => ?_)
            · have hF := iteB_t c257 hF
              have H258 := H
              obtain ⟨x259, e260, hF⟩ := bindO_some hF
              refine RL_call rfl rfl (DoC_func en17 rfl) (F_law9_totals_w _ e260 _ _ _ (H.enter [] [] (by decide) rfl)) ?_
              rintro _ w261 ⟨rfl, G262⟩
              have H := H258.step (G262.only : Only [] _ _)
              refine ⟨_, rfl, ?_⟩
              refine RL_do rfl rfl (Do_pick_t (v := .bool x259) rfl rfl) ?_
              refine RL_do rfl rfl (Do_assign (v := .bool x259) rfl) ?_
              have hR := Option.some.inj hF
              subst hR
              refine (RL_nil (thenQ_n (And.intro ?_ ?_)))
              · repeat' (first | with_reducible exact Fr_refl | refine Fr_upd rfl ?_ | refine Fr_over rfl rfl ?_)
              · exact ⟨(), (Sl_cons rfl Sl_nil), H.pick [2] (by decide)⟩
            · have hF := iteB_f c257 hF
              refine RL_off rfl rfl ?_
              refine RL_do rfl rfl (Do_pick_f (v := .bool false) rfl rfl) ?_
              refine RL_do rfl rfl (Do_assign (v := .bool false) rfl) ?_
              have hR := Option.some.inj hF
              subst hR
              refine (RL_nil (thenQ_n (And.intro ?_ ?_)))
              · repeat' (first | with_reducible exact Fr_refl | refine Fr_upd rfl ?_ | refine Fr_over rfl rfl ?_)
              · exact ⟨(), (Sl_cons rfl Sl_nil), H.pick [2] (by decide)⟩
          · have hF := iteB_f c254 hF
            refine RL_off rfl rfl ?_
            refine RL_off rfl rfl ?_
            refine RL_off rfl rfl ?_
            refine RL_do rfl rfl (Do_pick_f (v := .bool false) rfl rfl) ?_
            refine RL_do rfl rfl (Do_move (v := .bool false) rfl) ?_
            refine RL_off rfl rfl ?_
            refine RL_do rfl rfl (Do_pick_f (v := .bool false) rfl rfl) ?_
            refine RL_do rfl rfl (Do_assign (v := .bool false) rfl) ?_
            have hR := Option.some.inj hF
            subst hR
            refine (RL_nil (thenQ_n (And.intro ?_ ?_)))
            · repeat' (first | with_reducible exact Fr_refl | refine Fr_upd rfl ?_ | refine Fr_over rfl rfl ?_)
            · exact ⟨(), (Sl_cons rfl Sl_nil), H.pick [2] (by decide)⟩
        · have hF := iteB_f c251 hF
          refine RL_off rfl rfl ?_
          refine RL_off rfl rfl ?_
          refine RL_off rfl rfl ?_
          refine RL_do rfl rfl (Do_pick_f (v := .bool false) rfl rfl) ?_
          refine RL_do rfl rfl (Do_move (v := .bool false) rfl) ?_
          refine RL_off rfl rfl ?_
          refine RL_off rfl rfl ?_
          refine RL_off rfl rfl ?_
          refine RL_do rfl rfl (Do_pick_f (v := .bool false) rfl rfl) ?_
          refine RL_do rfl rfl (Do_move (v := .bool false) rfl) ?_
          refine RL_off rfl rfl ?_
          refine RL_do rfl rfl (Do_pick_f (v := .bool false) rfl rfl) ?_
          refine RL_do rfl rfl (Do_assign (v := .bool false) rfl) ?_
          have hR := Option.some.inj hF
          subst hR
          refine (RL_nil (thenQ_n (And.intro ?_ ?_)))
          · repeat' (first | with_reducible exact Fr_refl | refine Fr_upd rfl ?_ | refine Fr_over rfl rfl ?_)
          · exact ⟨(), (Sl_cons rfl Sl_nil), H.pick [2] (by decide)⟩
      · rintro _ ρ w235 H
        have hF := hK236
        have hR := Option.some.inj hF
        subst hR
        refine (WP_ret (post1 (v1 := .bool g234) rfl rfl ?_))
        exact ⟨rfl, H.pick [] (by decide)⟩
end Go.Proofs.YtbjhondbheijiaaDoor.L
