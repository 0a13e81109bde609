/- Walks: what each function computes, for every argument; no condition but those that stand in the statements. -/
import Derived.Test.YtbjhondbheijiaaDoorRows
import Derived.Test.YtbjhondbheijiaaDoorRP
import Derived.Test.YtbjhondbheijiaaDoorXEc
namespace Go.Proofs.YtbjhondbheijiaaDoor.L
open Go.RowKit Go.OB Go.Lf
theorem u2 : Tryd.prog.underlying 2 = some (.int .i64) := Tryd.underlying2
theorem u5 : Tryd.prog.underlying 5 = some (.int .u8) := Tryd.underlying5
theorem u9 : Tryd.prog.underlying 9 = some .string := Tryd.underlying9
theorem u22 : Tryd.prog.underlying 22 = some (.slice 25) := Tryd.underlying22
theorem u23 : Tryd.prog.underlying 23 = some (.slice 3) := Tryd.underlying23
theorem u32 : Tryd.prog.underlying 32 = some (.slice 5) := Tryd.underlying32
theorem u35 : Tryd.prog.underlying 35 = some (.slice 9) := Tryd.underlying35
theorem u64 : Tryd.prog.underlying 64 = some (.slice 22) := Tryd.underlying64
theorem u119 : Tryd.prog.underlying 119 = some (.int .u64) := Tryd.underlying119
theorem sz3 : Sz Tryd.prog 3 1 := by unfold Sz; kernel_rfl
theorem sz9 : Sz Tryd.prog 9 1 := by unfold Sz; kernel_rfl
theorem sz22 : Sz Tryd.prog 22 1 := by unfold Sz; kernel_rfl
theorem sz23 : Sz Tryd.prog 23 1 := by unfold Sz; kernel_rfl
theorem sz25 : Sz Tryd.prog 25 4 := by unfold Sz; kernel_rfl
theorem sz32 : Sz Tryd.prog 32 1 := by unfold Sz; kernel_rfl
theorem one3 : OneC Tryd.prog 3 := by unfold OneC; kernel_rfl
theorem one4 : OneC Tryd.prog 4 := by unfold OneC; kernel_rfl
theorem one9 : OneC Tryd.prog 9 := by unfold OneC; kernel_rfl
theorem one22 : OneC Tryd.prog 22 := by unfold OneC; kernel_rfl
theorem one23 : OneC Tryd.prog 23 := by unfold OneC; kernel_rfl
theorem one32 : OneC Tryd.prog 32 := by unfold OneC; kernel_rfl
theorem agg25 : Agg Tryd.prog 25 := by unfold Agg; kernel_rfl
theorem zero25 : Go.OB.Zero Tryd.prog 25 ([.string (bs []), .bool false, .int .i64 0, .slice none 0 0]) := by unfold Go.OB.Zero; kernel_rfl
theorem zero69 : Go.OB.Zero Tryd.prog 69 ([.pointer none, .slice none 0 0]) := by unfold Go.OB.Zero; kernel_rfl
theorem el3 : El Tryd.prog 3 1 8 ([.int .i64 0]) := ⟨by kernel_rfl, by kernel_rfl, by kernel_rfl, by decide, by decide⟩
theorem el5 : El Tryd.prog 5 1 1 ([.int .u8 0]) := ⟨by kernel_rfl, by kernel_rfl, by kernel_rfl, by decide, by decide⟩
theorem el9 : El Tryd.prog 9 1 16 ([.string (bs [])]) := ⟨by kernel_rfl, by kernel_rfl, by kernel_rfl, by decide, by decide⟩
theorem el22 : El Tryd.prog 22 1 24 ([.slice none 0 0]) := ⟨by kernel_rfl, by kernel_rfl, by kernel_rfl, by decide, by decide⟩
theorem el25 : El Tryd.prog 25 4 56 ([.string (bs []), .bool false, .int .i64 0, .slice none 0 0]) := ⟨by kernel_rfl, by kernel_rfl, by kernel_rfl, by decide, by decide⟩
theorem z8_5 : Z8 Tryd.prog 5 := by unfold Z8; kernel_rfl
theorem bz25 : Tryd.prog.built 25 [] = some ([.string (bs []), .bool false, .int .i64 0, .slice none 0 0]).toArray := by kernel_rfl
theorem bz34 : Tryd.prog.built 34 [] = some ([.slice none 0 0]).toArray := by kernel_rfl
theorem bt25_0_2_3 (a0 : Str) (a1 : Int) (a2a : Option Addr) (a2n a2c : Nat) : Tryd.prog.built 25 [(0, .string (bs a0)), (2, .int .i64 a1), (3, .slice a2a a2n a2c)] = some [.string (bs a0), .bool false, .int .i64 a1, .slice a2a a2n a2c].toArray := by kernel_rfl
theorem fa25_0 {ρ : Env} {w : World} {d : Option Tmp} {x : Operand} {ty : TypeId} {pos : String} {af : Array Edge} {g : Option (Nat × Bool)} {b o : Nat} (hx : ev ρ x = .pointer (some ⟨b, o, none⟩)) : Do Tryd.prog ⟨d, .fieldAddr 25 x 0, ty, pos, af, g⟩ ρ w (.pointer (some ⟨b, o + 0, none⟩)) w := Do_fieldAddrC (n := 1) (m := 0) (by kernel_rfl) (by decide) hx
theorem fa25_1 {ρ : Env} {w : World} {d : Option Tmp} {x : Operand} {ty : TypeId} {pos : String} {af : Array Edge} {g : Option (Nat × Bool)} {b o : Nat} (hx : ev ρ x = .pointer (some ⟨b, o, none⟩)) : Do Tryd.prog ⟨d, .fieldAddr 25 x 1, ty, pos, af, g⟩ ρ w (.pointer (some ⟨b, o + 1, none⟩)) w := Do_fieldAddrC (n := 1) (m := 1) (by kernel_rfl) (by decide) hx
theorem fa25_2 {ρ : Env} {w : World} {d : Option Tmp} {x : Operand} {ty : TypeId} {pos : String} {af : Array Edge} {g : Option (Nat × Bool)} {b o : Nat} (hx : ev ρ x = .pointer (some ⟨b, o, none⟩)) : Do Tryd.prog ⟨d, .fieldAddr 25 x 2, ty, pos, af, g⟩ ρ w (.pointer (some ⟨b, o + 2, none⟩)) w := Do_fieldAddrC (n := 1) (m := 2) (by kernel_rfl) (by decide) hx
theorem fa25_3 {ρ : Env} {w : World} {d : Option Tmp} {x : Operand} {ty : TypeId} {pos : String} {af : Array Edge} {g : Option (Nat × Bool)} {b o : Nat} (hx : ev ρ x = .pointer (some ⟨b, o, none⟩)) : Do Tryd.prog ⟨d, .fieldAddr 25 x 3, ty, pos, af, g⟩ ρ w (.pointer (some ⟨b, o + 3, none⟩)) w := Do_fieldAddrC (n := 1) (m := 3) (by kernel_rfl) (by decide) hx
theorem fa34_0 {ρ : Env} {w : World} {d : Option Tmp} {x : Operand} {ty : TypeId} {pos : String} {af : Array Edge} {g : Option (Nat × Bool)} {b o : Nat} (hx : ev ρ x = .pointer (some ⟨b, o, none⟩)) : Do Tryd.prog ⟨d, .fieldAddr 34 x 0, ty, pos, af, g⟩ ρ w (.pointer (some ⟨b, o + 0, none⟩)) w := Do_fieldAddrC (n := 1) (m := 0) (by kernel_rfl) (by decide) hx
theorem fa69_1 {ρ : Env} {w : World} {d : Option Tmp} {x : Operand} {ty : TypeId} {pos : String} {af : Array Edge} {g : Option (Nat × Bool)} {b o : Nat} (hx : ev ρ x = .pointer (some ⟨b, o, none⟩)) : Do Tryd.prog ⟨d, .fieldAddr 69 x 1, ty, pos, af, g⟩ ρ w (.pointer (some ⟨b, o + 1, none⟩)) w := Do_fieldAddrC (n := 1) (m := 1) (by kernel_rfl) (by decide) hx
theorem en5 : Go.OB.Enters Tryd.prog 5 := ⟨_, Tryd.func5, rfl, by kernel_rfl⟩
theorem en6 : Go.OB.Enters Tryd.prog 6 := ⟨_, Tryd.func6, rfl, by kernel_rfl⟩
theorem en7 : Go.OB.Enters Tryd.prog 7 := ⟨_, Tryd.func7, rfl, by kernel_rfl⟩
theorem en8 : Go.OB.Enters Tryd.prog 8 := ⟨_, Tryd.func8, rfl, by kernel_rfl⟩
theorem en9 : Go.OB.Enters Tryd.prog 9 := ⟨_, Tryd.func9, rfl, by kernel_rfl⟩
theorem en10 : Go.OB.Enters Tryd.prog 10 := ⟨_, Tryd.func10, rfl, by kernel_rfl⟩
theorem en11 : Go.OB.Enters Tryd.prog 11 := ⟨_, Tryd.func11, rfl, by kernel_rfl⟩
theorem en12 : Go.OB.Enters Tryd.prog 12 := ⟨_, Tryd.func12, rfl, by kernel_rfl⟩
theorem en13 : Go.OB.Enters Tryd.prog 13 := ⟨_, Tryd.func13, rfl, by kernel_rfl⟩
theorem en14 : Go.OB.Enters Tryd.prog 14 := ⟨_, Tryd.func14, rfl, by kernel_rfl⟩
theorem en15 : Go.OB.Enters Tryd.prog 15 := ⟨_, Tryd.func15, rfl, by kernel_rfl⟩
theorem en16 : Go.OB.Enters Tryd.prog 16 := ⟨_, Tryd.func16, rfl, by kernel_rfl⟩
theorem en17 : Go.OB.Enters Tryd.prog 17 := ⟨_, Tryd.func17, rfl, by kernel_rfl⟩
theorem en25 : Go.OB.Enters Tryd.prog 25 := ⟨_, Tryd.func25, rfl, by kernel_rfl⟩
theorem en26 : Go.OB.Enters Tryd.prog 26 := ⟨_, Tryd.func26, rfl, by kernel_rfl⟩
theorem en27 : Go.OB.Enters Tryd.prog 27 := ⟨_, Tryd.func27, rfl, by kernel_rfl⟩
theorem en28 : Go.OB.Enters Tryd.prog 28 := ⟨_, Tryd.func28, rfl, by kernel_rfl⟩
theorem en29 : Go.OB.Enters Tryd.prog 29 := ⟨_, Tryd.func29, rfl, by kernel_rfl⟩
theorem en30 : Go.OB.Enters Tryd.prog 30 := ⟨_, Tryd.func30, rfl, by kernel_rfl⟩
theorem en31 : Go.OB.Enters Tryd.prog 31 := ⟨_, Tryd.func31, rfl, by kernel_rfl⟩
theorem en32 : Go.OB.Enters Tryd.prog 32 := ⟨_, Tryd.func32, rfl, by kernel_rfl⟩
theorem en33 : Go.OB.Enters Tryd.prog 33 := ⟨_, Tryd.func33, rfl, by kernel_rfl⟩
theorem en34 : Go.OB.Enters Tryd.prog 34 := ⟨_, Tryd.func34, rfl, by kernel_rfl⟩
theorem en35 : Go.OB.Enters Tryd.prog 35 := ⟨_, Tryd.func35, rfl, by kernel_rfl⟩
theorem en36 : Go.OB.Enters Tryd.prog 36 := ⟨_, Tryd.func36, rfl, by kernel_rfl⟩
theorem en37 : Go.OB.Enters Tryd.prog 37 := ⟨_, Tryd.func37, rfl, by kernel_rfl⟩
theorem en38 : Go.OB.Enters Tryd.prog 38 := ⟨_, Tryd.func38, rfl, by kernel_rfl⟩
theorem en39 : Go.OB.Enters Tryd.prog 39 := ⟨_, Tryd.func39, rfl, by kernel_rfl⟩
theorem en40 : Go.OB.Enters Tryd.prog 40 := ⟨_, Tryd.func40, rfl, by kernel_rfl⟩
theorem en41 : Go.OB.Enters Tryd.prog 41 := ⟨_, Tryd.func41, rfl, by kernel_rfl⟩
theorem en42 : Go.OB.Enters Tryd.prog 42 := ⟨_, Tryd.func42, rfl, by kernel_rfl⟩
theorem en54 : Go.OB.Enters Tryd.prog 54 := ⟨_, Tryd.func54, rfl, by kernel_rfl⟩
theorem en55 : Go.OB.Enters Tryd.prog 55 := ⟨_, Tryd.func55, rfl, by kernel_rfl⟩
theorem en56 : Go.OB.Enters Tryd.prog 56 := ⟨_, Tryd.func56, rfl, by kernel_rfl⟩
theorem en57 : Go.OB.Enters Tryd.prog 57 := ⟨_, Tryd.func57, rfl, by kernel_rfl⟩
theorem en58 : Go.OB.Enters Tryd.prog 58 := ⟨_, Tryd.func58, rfl, by kernel_rfl⟩
theorem en72 : Go.OB.Enters Tryd.prog 72 := ⟨_, Tryd.func72, rfl, by kernel_rfl⟩
theorem en75 : Go.OB.Enters Tryd.prog 75 := ⟨_, Tryd.func75, rfl, by kernel_rfl⟩
theorem en76 : Go.OB.Enters Tryd.prog 76 := ⟨_, Tryd.func76, rfl, by kernel_rfl⟩
theorem en77 : Go.OB.Enters Tryd.prog 77 := ⟨_, Tryd.func77, rfl, by kernel_rfl⟩
theorem en88 : Go.OB.Enters Tryd.prog 88 := ⟨_, Tryd.func88, rfl, by kernel_rfl⟩
theorem en89 : Go.OB.Enters Tryd.prog 89 := ⟨_, Tryd.func89, rfl, by kernel_rfl⟩
theorem en99 : Go.OB.Enters Tryd.prog 99 := ⟨_, Tryd.func99, rfl, by kernel_rfl⟩
theorem mixed : Tryd.prog.follows .mixedOrders = true := by kernel_rfl
end Go.Proofs.YtbjhondbheijiaaDoor.L
namespace Go.Proofs.YtbjhondbheijiaaDoor.L
open Go.RowKit Go.OB Go.Lf
/- orangebox/fleet.CheckTable$1 -/
set_option maxHeartbeats 4000000 in
theorem F_fleet_CheckTable_1_w (p0 : FleetRow) (v1 : Value) (r : Bool) (hF : F_fleet_CheckTable_1 p0 = some r) (O S : List Nat) (w : World) (H : Hd O w w S [.fz (.sl (Rp.int .i64) v1 p0.Events)]) :
    Calls Tryd.prog 26 ([.agg [.string (bs p0.Key), .bool p0.Hidden, .int .i64 p0.Flights, v1].toArray] : List Value).toArray w fun e w' => e = .returned (.bool r) ∧ Hd O w w' S [] := by
  unfold F_fleet_CheckTable_1 at hF
  refine calls_of_WP 6 Tryd.func26 rfl rfl rfl ?_
  refine WP_seq_k fun K3 hK3 => ?_
  refine WP_region ?_
  refine RL_ex rfl rfl (Lx_box (cs := [.string (bs p0.Key), .bool p0.Hidden, .int .i64 p0.Flights, v1]) rfl H) ?_
  rintro _ w6 ⟨b4, rfl, H⟩
  refine RL_do rfl rfl (Do_assign (v := .bool false) rfl) ?_
  refine (RL_nil (thenQ_n (hK3 _ _ ?_)))
  refine WP_seq_k fun K7 hK7 => ?_
  refine WP_region ?_
  refine RL_do rfl rfl (fa25_1 rfl) ?_
  refine RL_do rfl rfl (Do_load one4 rfl (Cells.get (Blk.cells (H.item (i := 1) rfl)) (i := 1) rfl)) ?_
  obtain ⟨x8, e9, hF⟩ := letO_some hF
  refine RL_do rfl rfl (Do_as (Do_not (p := p0.Hidden) rfl) (congrArg Value.bool e9)) ?_
  refine RL_do rfl rfl (Do_assign (v := .bool x8) rfl) ?_
  refine (RL_nil (thenQ_n (hK7 _ _ ?_)))
  have hR := Option.some.inj hF
  subst hR
  refine (WP_ret (post1 (v1 := .bool x8) rfl rfl ?_))
  exact ⟨rfl, H.pick [] (by decide)⟩
end Go.Proofs.YtbjhondbheijiaaDoor.L
namespace Go.Proofs.YtbjhondbheijiaaDoor.L
open Go.RowKit Go.OB Go.Lf
/- slices.IndexFunc[[]orangebox/api.FleetRow,orangebox/api.FleetRow]@orangebox/fleet.CheckTable$1 -/
set_option maxHeartbeats 4000000 in
theorem F_slices_IndexFunc___api_FleetRow_api_FleetRow__fleet_CheckTable_1_w (p0 : List FleetRow) (v1 : Value) (r : Int) (hF : F_slices_IndexFunc___api_FleetRow_api_FleetRow__fleet_CheckTable_1 p0 = some r) (O S : List Nat) (w : World) (H : Hd O w w S [.fz (.sl rFleetRow v1 p0)]) :
    Calls Tryd.prog 25 ([v1, .func (.func 26) #[] #[]] : List Value).toArray w fun e w' => e = .returned (.int .i64 r) ∧ Hd O w w' S [] := by
  unfold F_slices_IndexFunc___api_FleetRow_api_FleetRow__fleet_CheckTable_1 at hF
  refine calls_of_WP 19 Tryd.func25 rfl rfl rfl ?_
  refine WP_seq_k fun K3 hK3 => ?_
  refine WP_region ?_
  refine RL_do rfl rfl (Do_assign (v := .int .i64 0) rfl) ?_
  refine (RL_nil (thenQ_n (hK3 _ _ ?_)))
  obtain ⟨k132, ek133, hF⟩ := joinO_some hF
  refine WP_seqS [4, 5, 6, 7, 8, 9, 10, 11, 12, 13, 14, 15, 16, 17, 18] (fun (g : Unit) => []) (fun g wl => Hd O w wl S [] ∧ k132 () = some r) ?_ ?_
  · skip
    refine WP_seq_k fun K134 hK134 => ?_
    refine WP_region ?_
    refine RL_do rfl rfl (Do_move (v := v1) rfl) ?_
    obtain ⟨x135, e136, hF⟩ := letO_some hF
    obtain ⟨a137, c138, q139⟩ := SlF.len ((H.item (i := 0) rfl))
    refine RL_do rfl rfl (Do_as (Do_len u22 q139) (congrArg (Value.int .i64) e136)) ?_
    refine RL_do rfl rfl (Do_move (v := .int .i64 0) rfl) ?_
    refine (RL_nil (thenQ_n (hK134 _ _ ?_)))
    refine WP_block ?_
    unfold F_slices_IndexFunc___api_FleetRow_api_FleetRow__fleet_CheckTable_1_L1 at hF
    obtain ⟨B256, n257, eB258, hF⟩ := loopO_some hF
    refine WP_loopS [4, 5, 8, 9, 10, 11, 12, 13, 14, 15, 16, 17, 18] (fun (g : Nat × Int) => [(8, .int .i64 g.2)]) (fun g wl => Hd O w wl S [.fz (.sl rFleetRow v1 p0)] ∧ loopN B256 g.1 g.2 = some r) (fun g => g.1) (n257, 0) (Sl_cons rfl Sl_nil) ⟨H.pick [0] (by decide), hF⟩ ?_
    clear H hF
    rintro ⟨n257, g255⟩ ρ w260 ⟨H, hF⟩
    obtain ⟨n261, rfl, hF⟩ := loopN_pos hF
    have hF := loop_body eB258 hF
    refine WP_seq_k fun K262 hK262 => ?_
    refine WP_region ?_
    obtain ⟨x263, e264, hF⟩ := letO_some hF
    refine RL_do rfl rfl (Do_as (Do_lss (a := g255) (b := x135) rfl rfl) (congrArg Value.bool e264)) ?_
    refine (RL_nil (thenQ_n (hK262 _ _ ?_)))
    refine WP_seq_k fun K266 hK266 => ?_
    refine WP_ifb (b := x263) rfl (fun c267 => ?_) (fun c267 => ?_)
    · have hF := iteB_t c267 hF
      refine (WP_skip (thenQ_n (hK266 _ _ ?_)))
      refine WP_seq_k fun K292 hK292 => ?_
      refine WP_block ?_
      refine WP_seq_k fun K293 hK293 => ?_
      refine WP_region ?_
      refine RL_do rfl rfl (Do_move (v := .int .i64 g255) rfl) ?_
      refine RL_do rfl rfl (Do_assign (v := .int .i64 g255) rfl) ?_
      refine (RL_nil (thenQ_n (hK293 _ _ ?_)))
      refine WP_seq_k fun K294 hK294 => ?_
      refine WP_region ?_
      refine RL_do rfl rfl (Do_move (v := .func (.func 26) #[] #[]) rfl) ?_
      refine RL_do rfl rfl (Do_move (v := v1) rfl) ?_
      refine RL_do rfl rfl (Do_move (v := .int .i64 g255) rfl) ?_
      obtain ⟨x295, e296, hF⟩ := bindO_some hF
      obtain ⟨b297, o298, c299, cs300, q301, h304, h302, h303, h305⟩ := rd_at (H.item (i := 0) rfl) e296
      obtain ⟨v306, rfl, h307⟩ := rFleetRow_open h304
      have H := H.fzs [.at b297 (o298 + g255.toNat * 4) _, .sl (Rp.int .i64) v306 x295.Events] ⟨⟨h302, h303, h305⟩, h307, trivial⟩
      refine RL_do rfl rfl (Do_idx u22 sz25 q301 rfl (at_some e296).1 (at_some e296).2.1 rfl rfl) ?_
      refine RL_do rfl rfl (Do_as (Do_loads (cs := [.string (bs x295.Key), .bool x295.Hidden, .int .i64 x295.Flights, v306]) agg25 rfl sz25 rfl (H.item (i := 1) rfl).2.2) rfl) ?_
      have H310 := H
      obtain ⟨x311, e312, hF⟩ := bindO_some hF
      refine RL_call rfl rfl (DoC_clo en26 rfl rfl) (F_fleet_CheckTable_1_w x295 v306 _ e312 _ _ _ (H.enter [] [2] (by decide) rfl)) ?_
      rintro _ w313 ⟨rfl, G314⟩
      have H := H310.step (G314.only : Only [] _ _)
      refine ⟨_, rfl, ?_⟩
      refine (RL_nil (thenQ_n (hK294 _ _ ?_)))
      refine WP_ifb (b := x311) rfl (fun c315 => ?_) (fun c315 => ?_)
      · have hF := iteB_t c315 hF
        refine WP_seq_k fun K316 hK316 => ?_
        refine WP_region ?_
        refine RL_do rfl rfl (Do_move (v := .int .i64 g255) rfl) ?_
        refine RL_do rfl rfl (Do_assign (v := .int .i64 g255) rfl) ?_
        refine (RL_nil (thenQ_n (hK316 _ _ ?_)))
        have hR := Option.some.inj hF
        subst hR
        refine (WP_ret (blockQ_r (thenQ_r (thenQ_r (blockQ_r (thenQ_r (post1 (v1 := .int .i64 g255) rfl rfl ?_)))))))
        exact ⟨rfl, H.pick [] (by decide)⟩
      · have hF := iteB_f c315 hF
        refine (WP_skip (blockQ_n (thenQ_n (hK292 _ _ ?_))))
        refine WP_region ?_
        obtain ⟨x317, e318, hF⟩ := letO_some hF
        refine RL_do rfl rfl (Do_add (a := g255) (b := 1) rfl rfl e318) ?_
        refine RL_do rfl rfl (Do_move (v := .int .i64 x317) rfl) ?_
        refine (RL_nil (thenQ_n (And.intro ?_ ?_)))
        · repeat' (first | with_reducible exact Fr_refl | refine Fr_upd rfl ?_ | refine Fr_over rfl rfl ?_)
        · exact ⟨(n261, x317), (Sl_cons rfl Sl_nil), ⟨H.pick [0] (by decide), hF⟩, Nat.lt_succ_self _⟩
    · have hF := iteB_f c267 hF
      refine (WP_exit (thenQ_x (thenQ_x (blockQ_eq (thenQ_n (And.intro ?_ ?_))))))
      · repeat' (first | with_reducible exact Fr_refl | refine Fr_upd rfl ?_ | refine Fr_over rfl rfl ?_)
      · exact ⟨(), Sl_nil, ⟨H.pick [] (by decide), hF⟩⟩
  · rintro _ ρ w131 ⟨H, hF⟩
    have hF := join_body ek133 hF
    refine WP_seq_k fun K319 hK319 => ?_
    refine WP_region ?_
    refine RL_do rfl rfl (Do_assign (v := .int .i64 (-1)) rfl) ?_
    refine (RL_nil (thenQ_n (hK319 _ _ ?_)))
    have hR := Option.some.inj hF
    subst hR
    refine (WP_ret (post1 (v1 := .int .i64 (-1)) rfl rfl ?_))
    exact ⟨rfl, H.pick [] (by decide)⟩
end Go.Proofs.YtbjhondbheijiaaDoor.L
namespace Go.Proofs.YtbjhondbheijiaaDoor.L
open Go.RowKit Go.OB Go.Lf
/- orangebox/fleet.CheckTable$3 -/
set_option maxHeartbeats 4000000 in
theorem F_fleet_CheckTable_3_w (p0 : FleetRow) (c0 : FleetRow) (v1 : Value) (b3 : Nat) (v4 : Value) (r : Bool) (hF : F_fleet_CheckTable_3 p0 c0 = some r) (O S : List Nat) (w : World) (H : Hd O w w S [.blk b3 [.string (bs c0.Key), .bool c0.Hidden, .int .i64 c0.Flights, v4] 25, .fz (.sl (Rp.int .i64) v1 p0.Events), .fz (.sl (Rp.int .i64) v4 c0.Events)]) :
    Calls Tryd.prog 30 ([.agg [.string (bs p0.Key), .bool p0.Hidden, .int .i64 p0.Flights, v1].toArray, .pointer (some ⟨b3, 0, none⟩)] : List Value).toArray w fun e w' => e = .returned (.bool r) ∧ Hd O w w' S [.blk b3 [.string (bs c0.Key), .bool c0.Hidden, .int .i64 c0.Flights, v4] 25] := by
  unfold F_fleet_CheckTable_3 at hF
  refine calls_of_WP 9 Tryd.func30 rfl rfl rfl ?_
  refine WP_seq_k fun K7 hK7 => ?_
  refine WP_region ?_
  refine RL_ex rfl rfl (Lx_box (cs := [.string (bs p0.Key), .bool p0.Hidden, .int .i64 p0.Flights, v1]) rfl H) ?_
  rintro _ w10 ⟨b8, rfl, H⟩
  refine RL_do rfl rfl (Do_assign (v := .bool false) rfl) ?_
  refine (RL_nil (thenQ_n (hK7 _ _ ?_)))
  refine WP_seq_k fun K11 hK11 => ?_
  refine WP_region ?_
  refine RL_do rfl rfl (fa25_0 rfl) ?_
  refine RL_do rfl rfl (Do_load one9 rfl (Cells.get (Blk.cells (H.item (i := 3) rfl)) (i := 0) rfl)) ?_
  refine RL_do rfl rfl (fa25_0 rfl) ?_
  refine RL_do rfl rfl (Do_load one9 rfl (Cells.get (Blk.cells (H.item (i := 0) rfl)) (i := 0) rfl)) ?_
  obtain ⟨x12, e13, hF⟩ := letO_some hF
  refine RL_do rfl rfl (Do_as (Do_eqls (s1 := p0.Key) (s2 := c0.Key) rfl rfl) (congrArg Value.bool e13)) ?_
  refine RL_do rfl rfl (Do_assign (v := .bool x12) rfl) ?_
  refine (RL_nil (thenQ_n (hK11 _ _ ?_)))
  have hR := Option.some.inj hF
  subst hR
  refine (WP_ret (post1 (v1 := .bool x12) rfl rfl ?_))
  exact ⟨rfl, H.pick [0] (by decide)⟩
end Go.Proofs.YtbjhondbheijiaaDoor.L
namespace Go.Proofs.YtbjhondbheijiaaDoor.L
open Go.RowKit Go.OB Go.Lf
/- slices.IndexFunc[[]orangebox/api.FleetRow,orangebox/api.FleetRow]@orangebox/fleet.CheckTable$3 -/
set_option maxHeartbeats 4000000 in
theorem F_slices_IndexFunc___api_FleetRow_api_FleetRow__fleet_CheckTable_3_w (p0 : List FleetRow) (p1c0 : FleetRow) (v1 : Value) (b3 : Nat) (v4 : Value) (r : Int) (hF : F_slices_IndexFunc___api_FleetRow_api_FleetRow__fleet_CheckTable_3 p0 p1c0 = some r) (O S : List Nat) (w : World) (H : Hd O w w S [.blk b3 [.string (bs p1c0.Key), .bool p1c0.Hidden, .int .i64 p1c0.Flights, v4] 25, .fz (.sl rFleetRow v1 p0), .fz (.sl (Rp.int .i64) v4 p1c0.Events)]) :
    Calls Tryd.prog 25 ([v1, .func (.func 30) #[] [.pointer (some ⟨b3, 0, none⟩)].toArray] : List Value).toArray w fun e w' => e = .returned (.int .i64 r) ∧ Hd O w w' S [.blk b3 [.string (bs p1c0.Key), .bool p1c0.Hidden, .int .i64 p1c0.Flights, v4] 25] := by
  unfold F_slices_IndexFunc___api_FleetRow_api_FleetRow__fleet_CheckTable_3 at hF
  refine calls_of_WP 19 Tryd.func25 rfl rfl rfl ?_
  refine WP_seq_k fun K7 hK7 => ?_
  refine WP_region ?_
  refine RL_do rfl rfl (Do_assign (v := .int .i64 0) rfl) ?_
  refine (RL_nil (thenQ_n (hK7 _ _ ?_)))
  obtain ⟨k132, ek133, hF⟩ := joinO_some hF
  refine WP_seqS [4, 5, 6, 7, 8, 9, 10, 11, 12, 13, 14, 15, 16, 17, 18] (fun (g : Unit) => []) (fun g wl => Hd O w wl S [.blk b3 [.string (bs p1c0.Key), .bool p1c0.Hidden, .int .i64 p1c0.Flights, v4] 25, .fz (.sl (Rp.int .i64) v4 p1c0.Events)] ∧ k132 () = some r) ?_ ?_
  · skip
    refine WP_seq_k fun K134 hK134 => ?_
    refine WP_region ?_
    refine RL_do rfl rfl (Do_move (v := v1) rfl) ?_
    obtain ⟨x135, e136, hF⟩ := letO_some hF
    obtain ⟨a137, c138, q139⟩ := SlF.len ((H.item (i := 1) rfl))
    refine RL_do rfl rfl (Do_as (Do_len u22 q139) (congrArg (Value.int .i64) e136)) ?_
    refine RL_do rfl rfl (Do_move (v := .int .i64 0) rfl) ?_
    refine (RL_nil (thenQ_n (hK134 _ _ ?_)))
    refine WP_block ?_
    unfold F_slices_IndexFunc___api_FleetRow_api_FleetRow__fleet_CheckTable_3_L1 at hF
    obtain ⟨B252, n253, eB254, hF⟩ := loopO_some hF
    refine WP_loopS [4, 5, 8, 9, 10, 11, 12, 13, 14, 15, 16, 17, 18] (fun (g : Nat × Int) => [(8, .int .i64 g.2)]) (fun g wl => Hd O w wl S [.blk b3 [.string (bs p1c0.Key), .bool p1c0.Hidden, .int .i64 p1c0.Flights, v4] 25, .fz (.sl (Rp.int .i64) v4 p1c0.Events), .fz (.sl rFleetRow v1 p0)] ∧ loopN B252 g.1 g.2 = some r) (fun g => g.1) (n253, 0) (Sl_cons rfl Sl_nil) ⟨H.pick [0, 2, 1] (by decide), hF⟩ ?_
    clear H hF
    rintro ⟨n253, g251⟩ ρ w256 ⟨H, hF⟩
    obtain ⟨n257, rfl, hF⟩ := loopN_pos hF
    have hF := loop_body eB254 hF
    refine WP_seq_k fun K258 hK258 => ?_
    refine WP_region ?_
    obtain ⟨x259, e260, hF⟩ := letO_some hF
    refine RL_do rfl rfl (Do_as (Do_lss (a := g251) (b := x135) rfl rfl) (congrArg Value.bool e260)) ?_
    refine (RL_nil (thenQ_n (hK258 _ _ ?_)))
    refine WP_seq_k fun K262 hK262 => ?_
    refine WP_ifb (b := x259) rfl (fun c263 => ?_) (fun c263 => ?_)
    · have hF := iteB_t c263 hF
      refine (WP_skip (thenQ_n (hK262 _ _ ?_)))
      refine WP_seq_k fun K287 hK287 => ?_
      refine WP_block ?_
      refine WP_seq_k fun K288 hK288 => ?_
      refine WP_region ?_
      refine RL_do rfl rfl (Do_move (v := .int .i64 g251) rfl) ?_
      refine RL_do rfl rfl (Do_assign (v := .int .i64 g251) rfl) ?_
      refine (RL_nil (thenQ_n (hK288 _ _ ?_)))
      refine WP_seq_k fun K289 hK289 => ?_
      refine WP_region ?_
      refine RL_do rfl rfl (Do_move (v := .func (.func 30) #[] [.pointer (some ⟨b3, 0, none⟩)].toArray) rfl) ?_
      refine RL_do rfl rfl (Do_move (v := v1) rfl) ?_
      refine RL_do rfl rfl (Do_move (v := .int .i64 g251) rfl) ?_
      obtain ⟨x290, e291, hF⟩ := bindO_some hF
      obtain ⟨b292, o293, c294, cs295, q296, h299, h297, h298, h300⟩ := rd_at (H.item (i := 2) rfl) e291
      obtain ⟨v301, rfl, h302⟩ := rFleetRow_open h299
      have H := H.fzs [.at b292 (o293 + g251.toNat * 4) _, .sl (Rp.int .i64) v301 x290.Events] ⟨⟨h297, h298, h300⟩, h302, trivial⟩
      refine RL_do rfl rfl (Do_idx u22 sz25 q296 rfl (at_some e291).1 (at_some e291).2.1 rfl rfl) ?_
      refine RL_do rfl rfl (Do_as (Do_loads (cs := [.string (bs x290.Key), .bool x290.Hidden, .int .i64 x290.Flights, v301]) agg25 rfl sz25 rfl (H.item (i := 3) rfl).2.2) rfl) ?_
      obtain ⟨x305, e306, hF⟩ := bindO_some hF
      refine RL_call rfl rfl (DoC_clo en30 rfl rfl) (F_fleet_CheckTable_3_w x290 p1c0 v301 b3 v4 _ e306 _ _ _ (H.enter [0] [4, 1] (by decide) rfl)) ?_
      rintro _ w307 ⟨rfl, G308⟩
      have H : Hd O _ w307 _ [.fz (.sl (Rp.int .i64) v4 p1c0.Events), .fz (.sl rFleetRow v1 p0), .fz (.at b292 (o293 + g251.toNat * 4) [.string (bs x290.Key), .bool x290.Hidden, .int .i64 x290.Flights, v301]), .fz (.sl (Rp.int .i64) v301 x290.Events), .blk b3 [.string (bs p1c0.Key), .bool p1c0.Hidden, .int .i64 p1c0.Flights, v4] 25] := H.back [0] [4, 1] rfl G308
      refine ⟨_, rfl, ?_⟩
      refine (RL_nil (thenQ_n (hK289 _ _ ?_)))
      refine WP_ifb (b := x305) rfl (fun c309 => ?_) (fun c309 => ?_)
      · have hF := iteB_t c309 hF
        refine WP_seq_k fun K310 hK310 => ?_
        refine WP_region ?_
        refine RL_do rfl rfl (Do_move (v := .int .i64 g251) rfl) ?_
        refine RL_do rfl rfl (Do_assign (v := .int .i64 g251) rfl) ?_
        refine (RL_nil (thenQ_n (hK310 _ _ ?_)))
        have hR := Option.some.inj hF
        subst hR
        refine (WP_ret (blockQ_r (thenQ_r (thenQ_r (blockQ_r (thenQ_r (post1 (v1 := .int .i64 g251) rfl rfl ?_)))))))
        exact ⟨rfl, H.pick [4] (by decide)⟩
      · have hF := iteB_f c309 hF
        refine (WP_skip (blockQ_n (thenQ_n (hK287 _ _ ?_))))
        refine WP_region ?_
        obtain ⟨x311, e312, hF⟩ := letO_some hF
        refine RL_do rfl rfl (Do_add (a := g251) (b := 1) rfl rfl e312) ?_
        refine RL_do rfl rfl (Do_move (v := .int .i64 x311) rfl) ?_
        refine (RL_nil (thenQ_n (And.intro ?_ ?_)))
        · repeat' (first | with_reducible exact Fr_refl | refine Fr_upd rfl ?_ | refine Fr_over rfl rfl ?_)
        · exact ⟨(n257, x311), (Sl_cons rfl Sl_nil), ⟨H.pick [4, 0, 1] (by decide), hF⟩, Nat.lt_succ_self _⟩
    · have hF := iteB_f c263 hF
      refine (WP_exit (thenQ_x (thenQ_x (blockQ_eq (thenQ_n (And.intro ?_ ?_))))))
      · repeat' (first | with_reducible exact Fr_refl | refine Fr_upd rfl ?_ | refine Fr_over rfl rfl ?_)
      · exact ⟨(), Sl_nil, ⟨H.pick [0, 1] (by decide), hF⟩⟩
  · rintro _ ρ w131 ⟨H, hF⟩
    have hF := join_body ek133 hF
    refine WP_seq_k fun K313 hK313 => ?_
    refine WP_region ?_
    refine RL_do rfl rfl (Do_assign (v := .int .i64 (-1)) rfl) ?_
    refine (RL_nil (thenQ_n (hK313 _ _ ?_)))
    have hR := Option.some.inj hF
    subst hR
    refine (WP_ret (post1 (v1 := .int .i64 (-1)) rfl rfl ?_))
    exact ⟨rfl, H.pick [0] (by decide)⟩
end Go.Proofs.YtbjhondbheijiaaDoor.L
namespace Go.Proofs.YtbjhondbheijiaaDoor.L
open Go.RowKit Go.OB Go.Lf
/- slices.ContainsFunc[[]orangebox/api.FleetRow,orangebox/api.FleetRow]@orangebox/fleet.CheckTable$3 -/
set_option maxHeartbeats 4000000 in
theorem F_slices_ContainsFunc___api_FleetRow_api_FleetRow__fleet_CheckTable_3_w (p0 : List FleetRow) (p1c0 : FleetRow) (v1 : Value) (b3 : Nat) (v4 : Value) (r : Bool) (hF : F_slices_ContainsFunc___api_FleetRow_api_FleetRow__fleet_CheckTable_3 p0 p1c0 = some r) (O S : List Nat) (w : World) (H : Hd O w w S [.blk b3 [.string (bs p1c0.Key), .bool p1c0.Hidden, .int .i64 p1c0.Flights, v4] 25, .fz (.sl rFleetRow v1 p0), .fz (.sl (Rp.int .i64) v4 p1c0.Events)]) :
    Calls Tryd.prog 29 ([v1, .func (.func 30) #[] [.pointer (some ⟨b3, 0, none⟩)].toArray] : List Value).toArray w fun e w' => e = .returned (.bool r) ∧ Hd O w w' S [.blk b3 [.string (bs p1c0.Key), .bool p1c0.Hidden, .int .i64 p1c0.Flights, v4] 25] := by
  unfold F_slices_ContainsFunc___api_FleetRow_api_FleetRow__fleet_CheckTable_3 at hF
  refine calls_of_WP 9 Tryd.func29 rfl rfl rfl ?_
  refine WP_seq_k fun K7 hK7 => ?_
  refine WP_region ?_
  refine RL_do rfl rfl (Do_assign (v := .bool false) rfl) ?_
  refine (RL_nil (thenQ_n (hK7 _ _ ?_)))
  refine WP_seq_k fun K8 hK8 => ?_
  refine WP_region ?_
  refine RL_do rfl rfl (Do_move (v := v1) rfl) ?_
  refine RL_do rfl rfl (Do_move (v := .func (.func 30) #[] [.pointer (some ⟨b3, 0, none⟩)].toArray) rfl) ?_
  obtain ⟨x9, e10, hF⟩ := bindO_some hF
  refine RL_call rfl rfl (DoC_func en25 rfl) (F_slices_IndexFunc___api_FleetRow_api_FleetRow__fleet_CheckTable_3_w p0 p1c0 v1 b3 v4 _ e10 _ _ _ (H.enter [0] [1, 2] (by decide) rfl)) ?_
  rintro _ w11 ⟨rfl, G12⟩
  have H : Hd O _ w11 _ [.fz (.sl rFleetRow v1 p0), .fz (.sl (Rp.int .i64) v4 p1c0.Events), .blk b3 [.string (bs p1c0.Key), .bool p1c0.Hidden, .int .i64 p1c0.Flights, v4] 25] := H.back [0] [1, 2] rfl G12
  refine ⟨_, rfl, ?_⟩
  obtain ⟨x13, e14, hF⟩ := letO_some hF
  refine RL_do rfl rfl (Do_as (Do_geq (a := x9) (b := 0) rfl rfl) (congrArg Value.bool e14)) ?_
  refine RL_do rfl rfl (Do_assign (v := .bool x13) rfl) ?_
  refine (RL_nil (thenQ_n (hK8 _ _ ?_)))
  have hR := Option.some.inj hF
  subst hR
  refine (WP_ret (post1 (v1 := .bool x13) rfl rfl ?_))
  exact ⟨rfl, H.pick [2] (by decide)⟩
end Go.Proofs.YtbjhondbheijiaaDoor.L
namespace Go.Proofs.YtbjhondbheijiaaDoor.L
open Go.RowKit Go.OB Go.Lf
/- orangebox/fleet.within -/
set_option maxHeartbeats 4000000 in
theorem F_fleet_within_w (p0 : Int) (p1 : Int) (p2 : Int) (r : Bool) (hF : F_fleet_within p0 p1 p2 = some r) (O S : List Nat) (w : World) (H : Hd O w w S []) :
    Calls Tryd.prog 28 ([.int .i64 p0, .int .i64 p1, .int .i64 p2] : List Value).toArray w fun e w' => e = .returned (.bool r) ∧ Hd O w w' S [] := by
  unfold F_fleet_within at hF
  refine calls_of_WP 15 Tryd.func28 rfl rfl rfl ?_
  refine WP_seq_k fun K1 hK1 => ?_
  refine WP_region ?_
  refine RL_do rfl rfl (Do_assign (v := .bool false) rfl) ?_
  refine (RL_nil (thenQ_n (hK1 _ _ ?_)))
  obtain ⟨g7, hF, hK9⟩ := bindO_some hF
  refine WP_seqS [6, 7, 8, 9, 10, 11, 12, 13, 14] (fun (g : Unit) => [(6, .bool g7)]) (fun g wl => Hd O w wl S []) ?_ ?_
  · skip
    refine WP_region ?_
    refine RL_do rfl rfl (Do_move (v := .int .i64 p0) rfl) ?_
    refine RL_do rfl rfl (Do_move (v := .int .i64 p1) rfl) ?_
    obtain ⟨x10, e11, hF⟩ := letO_some hF
    refine RL_do rfl rfl (Do_as (Do_geq (a := p0) (b := p1) rfl rfl) (congrArg Value.bool e11)) ?_
    refine RL_splitb (b := x10) rfl rfl rfl (fun c12 => ?_) (fun c12 => ?_)
    · have hF := iteB_t c12 hF
      refine RL_do rfl rfl (Do_move (v := .int .i64 p0) rfl) ?_
      refine RL_do rfl rfl (Do_move (v := .int .i64 p2) rfl) ?_
      obtain ⟨x13, e14, hF⟩ := letO_some hF
      refine RL_do rfl rfl (Do_as (Do_leq (a := p0) (b := p2) rfl rfl) (congrArg Value.bool e14)) ?_
      refine RL_do rfl rfl (Do_pick_t (v := .bool x13) rfl rfl) ?_
      refine RL_do rfl rfl (Do_assign (v := .bool x13) rfl) ?_
      have hR := Option.some.inj hF
      subst hR
      refine (RL_nil (thenQ_n (And.intro ?_ ?_)))
      · repeat' (first | with_reducible exact Fr_refl | refine Fr_upd rfl ?_ | refine Fr_over rfl rfl ?_)
      · exact ⟨(), (Sl_cons rfl Sl_nil), H.pick [] (by decide)⟩
    · have hF := iteB_f c12 hF
      refine RL_off rfl rfl ?_
      refine RL_off rfl rfl ?_
      refine RL_off rfl rfl ?_
      refine RL_do rfl rfl (Do_pick_f (v := .bool false) rfl rfl) ?_
      refine RL_do rfl rfl (Do_assign (v := .bool false) rfl) ?_
      have hR := Option.some.inj hF
      subst hR
      refine (RL_nil (thenQ_n (And.intro ?_ ?_)))
      · repeat' (first | with_reducible exact Fr_refl | refine Fr_upd rfl ?_ | refine Fr_over rfl rfl ?_)
      · exact ⟨(), (Sl_cons rfl Sl_nil), H.pick [] (by decide)⟩
  · rintro _ ρ w8 H
    have hF := hK9
    have hR := Option.some.inj hF
    subst hR
    refine (WP_ret (post1 (v1 := .bool g7) rfl rfl ?_))
    exact ⟨rfl, H.pick [] (by decide)⟩
end Go.Proofs.YtbjhondbheijiaaDoor.L
namespace Go.Proofs.YtbjhondbheijiaaDoor.L
open Go.RowKit Go.OB Go.Lf
/- orangebox/fleet.CheckTable$2 -/
set_option maxHeartbeats 4000000 in
theorem F_fleet_CheckTable_2_w (p0 : Int) (r : Bool) (hF : F_fleet_CheckTable_2 p0 = some r) (O S : List Nat) (w : World) (H : Hd O w w S []) :
    Calls Tryd.prog 27 ([.int .i64 p0] : List Value).toArray w fun e w' => e = .returned (.bool r) ∧ Hd O w w' S [] := by
  unfold F_fleet_CheckTable_2 at hF
  refine calls_of_WP 6 Tryd.func27 rfl rfl rfl ?_
  refine WP_seq_k fun K1 hK1 => ?_
  refine WP_region ?_
  refine RL_do rfl rfl (Do_assign (v := .bool false) rfl) ?_
  refine (RL_nil (thenQ_n (hK1 _ _ ?_)))
  refine WP_seq_k fun K2 hK2 => ?_
  refine WP_region ?_
  refine RL_do rfl rfl (Do_move (v := .int .i64 p0) rfl) ?_
  have H3 := H
  obtain ⟨x4, e5, hF⟩ := bindO_some hF
  refine RL_call rfl rfl (DoC_func en28 rfl) (F_fleet_within_w p0 0 1000000000 _ e5 _ _ _ (H.enter [] [] (by decide) rfl)) ?_
  rintro _ w6 ⟨rfl, G7⟩
  have H := H3.step (G7.only : Only [] _ _)
  refine ⟨_, rfl, ?_⟩
  obtain ⟨x8, e9, hF⟩ := letO_some hF
  refine RL_do rfl rfl (Do_as (Do_not (p := x4) rfl) (congrArg Value.bool e9)) ?_
  refine RL_do rfl rfl (Do_assign (v := .bool x8) rfl) ?_
  refine (RL_nil (thenQ_n (hK2 _ _ ?_)))
  have hR := Option.some.inj hF
  subst hR
  refine (WP_ret (post1 (v1 := .bool x8) rfl rfl ?_))
  exact ⟨rfl, H.pick [] (by decide)⟩
end Go.Proofs.YtbjhondbheijiaaDoor.L
namespace Go.Proofs.YtbjhondbheijiaaDoor.L
open Go.RowKit Go.OB Go.Lf
/- slices.IndexFunc[[]int,int]@orangebox/fleet.CheckTable$2 -/
set_option maxHeartbeats 4000000 in
theorem F_slices_IndexFunc___int_int__fleet_CheckTable_2_w (p0 : List Int) (v1 : Value) (r : Int) (hF : F_slices_IndexFunc___int_int__fleet_CheckTable_2 p0 = some r) (O S : List Nat) (w : World) (H : Hd O w w S [.fz (.sl (Rp.int .i64) v1 p0)]) :
    Calls Tryd.prog 54 ([v1, .func (.func 27) #[] #[]] : List Value).toArray w fun e w' => e = .returned (.int .i64 r) ∧ Hd O w w' S [] := by
  unfold F_slices_IndexFunc___int_int__fleet_CheckTable_2 at hF
  refine calls_of_WP 19 Tryd.func54 rfl rfl rfl ?_
  refine WP_seq_k fun K3 hK3 => ?_
  refine WP_region ?_
  refine RL_do rfl rfl (Do_assign (v := .int .i64 0) rfl) ?_
  refine (RL_nil (thenQ_n (hK3 _ _ ?_)))
  obtain ⟨k120, ek121, hF⟩ := joinO_some hF
  refine WP_seqS [4, 5, 6, 7, 8, 9, 10, 11, 12, 13, 14, 15, 16, 17, 18] (fun (g : Unit) => []) (fun g wl => Hd O w wl S [] ∧ k120 () = some r) ?_ ?_
  · skip
    refine WP_seq_k fun K122 hK122 => ?_
    refine WP_region ?_
    refine RL_do rfl rfl (Do_move (v := v1) rfl) ?_
    obtain ⟨x123, e124, hF⟩ := letO_some hF
    obtain ⟨a125, c126, q127⟩ := SlF.len ((H.item (i := 0) rfl))
    refine RL_do rfl rfl (Do_as (Do_len u23 q127) (congrArg (Value.int .i64) e124)) ?_
    refine RL_do rfl rfl (Do_move (v := .int .i64 0) rfl) ?_
    refine (RL_nil (thenQ_n (hK122 _ _ ?_)))
    refine WP_block ?_
    unfold F_slices_IndexFunc___int_int__fleet_CheckTable_2_L1 at hF
    obtain ⟨B232, n233, eB234, hF⟩ := loopO_some hF
    refine WP_loopS [4, 5, 8, 9, 10, 11, 12, 13, 14, 15, 16, 17, 18] (fun (g : Nat × Int) => [(8, .int .i64 g.2)]) (fun g wl => Hd O w wl S [.fz (.sl (Rp.int .i64) v1 p0)] ∧ loopN B232 g.1 g.2 = some r) (fun g => g.1) (n233, 0) (Sl_cons rfl Sl_nil) ⟨H.pick [0] (by decide), hF⟩ ?_
    clear H hF
    rintro ⟨n233, g231⟩ ρ w236 ⟨H, hF⟩
    obtain ⟨n237, rfl, hF⟩ := loopN_pos hF
    have hF := loop_body eB234 hF
    refine WP_seq_k fun K238 hK238 => ?_
    refine WP_region ?_
    obtain ⟨x239, e240, hF⟩ := letO_some hF
    refine RL_do rfl rfl (Do_as (Do_lss (a := g231) (b := x123) rfl rfl) (congrArg Value.bool e240)) ?_
    refine (RL_nil (thenQ_n (hK238 _ _ ?_)))
    refine WP_seq_k fun K242 hK242 => ?_
    refine WP_ifb (b := x239) rfl (fun c243 => ?_) (fun c243 => ?_)
    · have hF := iteB_t c243 hF
      refine (WP_skip (thenQ_n (hK242 _ _ ?_)))
      refine WP_seq_k fun K265 hK265 => ?_
      refine WP_block ?_
      refine WP_seq_k fun K266 hK266 => ?_
      refine WP_region ?_
      refine RL_do rfl rfl (Do_move (v := .int .i64 g231) rfl) ?_
      refine RL_do rfl rfl (Do_assign (v := .int .i64 g231) rfl) ?_
      refine (RL_nil (thenQ_n (hK266 _ _ ?_)))
      refine WP_seq_k fun K267 hK267 => ?_
      refine WP_region ?_
      refine RL_do rfl rfl (Do_move (v := .func (.func 27) #[] #[]) rfl) ?_
      refine RL_do rfl rfl (Do_move (v := v1) rfl) ?_
      refine RL_do rfl rfl (Do_move (v := .int .i64 g231) rfl) ?_
      obtain ⟨x268, e269, hF⟩ := bindO_some hF
      obtain ⟨b270, o271, c272, cs273, q274, h277, h275, h276, h278⟩ := rd_at (H.item (i := 0) rfl) e269
      obtain rfl : cs273 = [.int .i64 x268] := h277
      have H := H.fz (.at b270 (o271 + g231.toNat * 1) _) ⟨h275, h276, h278⟩
      refine RL_do rfl rfl (Do_idx u23 sz3 q274 rfl (at_some e269).1 (at_some e269).2.1 rfl rfl) ?_
      refine RL_do rfl rfl (Do_load one3 rfl (Cells.get (H.item (i := 1) rfl).2.2 (i := 0) rfl)) ?_
      have H280 := H
      obtain ⟨x281, e282, hF⟩ := bindO_some hF
      refine RL_call rfl rfl (DoC_clo en27 rfl rfl) (F_fleet_CheckTable_2_w x268 _ e282 _ _ _ (H.enter [] [] (by decide) rfl)) ?_
      rintro _ w283 ⟨rfl, G284⟩
      have H := H280.step (G284.only : Only [] _ _)
      refine ⟨_, rfl, ?_⟩
      refine (RL_nil (thenQ_n (hK267 _ _ ?_)))
      refine WP_ifb (b := x281) rfl (fun c285 => ?_) (fun c285 => ?_)
      · have hF := iteB_t c285 hF
        refine WP_seq_k fun K286 hK286 => ?_
        refine WP_region ?_
        refine RL_do rfl rfl (Do_move (v := .int .i64 g231) rfl) ?_
        refine RL_do rfl rfl (Do_assign (v := .int .i64 g231) rfl) ?_
        refine (RL_nil (thenQ_n (hK286 _ _ ?_)))
        have hR := Option.some.inj hF
        subst hR
        refine (WP_ret (blockQ_r (thenQ_r (thenQ_r (blockQ_r (thenQ_r (post1 (v1 := .int .i64 g231) rfl rfl ?_)))))))
        exact ⟨rfl, H.pick [] (by decide)⟩
      · have hF := iteB_f c285 hF
        refine (WP_skip (blockQ_n (thenQ_n (hK265 _ _ ?_))))
        refine WP_region ?_
        obtain ⟨x287, e288, hF⟩ := letO_some hF
        refine RL_do rfl rfl (Do_add (a := g231) (b := 1) rfl rfl e288) ?_
        refine RL_do rfl rfl (Do_move (v := .int .i64 x287) rfl) ?_
        refine (RL_nil (thenQ_n (And.intro ?_ ?_)))
        · repeat' (first | with_reducible exact Fr_refl | refine Fr_upd rfl ?_ | refine Fr_over rfl rfl ?_)
        · exact ⟨(n237, x287), (Sl_cons rfl Sl_nil), ⟨H.pick [0] (by decide), hF⟩, Nat.lt_succ_self _⟩
    · have hF := iteB_f c243 hF
      refine (WP_exit (thenQ_x (thenQ_x (blockQ_eq (thenQ_n (And.intro ?_ ?_))))))
      · repeat' (first | with_reducible exact Fr_refl | refine Fr_upd rfl ?_ | refine Fr_over rfl rfl ?_)
      · exact ⟨(), Sl_nil, ⟨H.pick [] (by decide), hF⟩⟩
  · rintro _ ρ w119 ⟨H, hF⟩
    have hF := join_body ek121 hF
    refine WP_seq_k fun K289 hK289 => ?_
    refine WP_region ?_
    refine RL_do rfl rfl (Do_assign (v := .int .i64 (-1)) rfl) ?_
    refine (RL_nil (thenQ_n (hK289 _ _ ?_)))
    have hR := Option.some.inj hF
    subst hR
    refine (WP_ret (post1 (v1 := .int .i64 (-1)) rfl rfl ?_))
    exact ⟨rfl, H.pick [] (by decide)⟩
end Go.Proofs.YtbjhondbheijiaaDoor.L
namespace Go.Proofs.YtbjhondbheijiaaDoor.L
open Go.RowKit Go.OB Go.Lf
/- slices.ContainsFunc[[]int,int]@orangebox/fleet.CheckTable$2 -/
set_option maxHeartbeats 4000000 in
theorem F_slices_ContainsFunc___int_int__fleet_CheckTable_2_w (p0 : List Int) (v1 : Value) (r : Bool) (hF : F_slices_ContainsFunc___int_int__fleet_CheckTable_2 p0 = some r) (O S : List Nat) (w : World) (H : Hd O w w S [.fz (.sl (Rp.int .i64) v1 p0)]) :
    Calls Tryd.prog 31 ([v1, .func (.func 27) #[] #[]] : List Value).toArray w fun e w' => e = .returned (.bool r) ∧ Hd O w w' S [] := by
  unfold F_slices_ContainsFunc___int_int__fleet_CheckTable_2 at hF
  refine calls_of_WP 9 Tryd.func31 rfl rfl rfl ?_
  refine WP_seq_k fun K3 hK3 => ?_
  refine WP_region ?_
  refine RL_do rfl rfl (Do_assign (v := .bool false) rfl) ?_
  refine (RL_nil (thenQ_n (hK3 _ _ ?_)))
  refine WP_seq_k fun K4 hK4 => ?_
  refine WP_region ?_
  refine RL_do rfl rfl (Do_move (v := v1) rfl) ?_
  refine RL_do rfl rfl (Do_move (v := .func (.func 27) #[] #[]) rfl) ?_
  have H5 := H
  obtain ⟨x6, e7, hF⟩ := bindO_some hF
  refine RL_call rfl rfl (DoC_func en54 rfl) (F_slices_IndexFunc___int_int__fleet_CheckTable_2_w p0 v1 _ e7 _ _ _ (H.enter [] [0] (by decide) rfl)) ?_
  rintro _ w8 ⟨rfl, G9⟩
  have H := H5.step (G9.only : Only [] _ _)
  refine ⟨_, rfl, ?_⟩
  obtain ⟨x10, e11, hF⟩ := letO_some hF
  refine RL_do rfl rfl (Do_as (Do_geq (a := x6) (b := 0) rfl rfl) (congrArg Value.bool e11)) ?_
  refine RL_do rfl rfl (Do_assign (v := .bool x10) rfl) ?_
  refine (RL_nil (thenQ_n (hK4 _ _ ?_)))
  have hR := Option.some.inj hF
  subst hR
  refine (WP_ret (post1 (v1 := .bool x10) rfl rfl ?_))
  exact ⟨rfl, H.pick [] (by decide)⟩
end Go.Proofs.YtbjhondbheijiaaDoor.L
namespace Go.Proofs.YtbjhondbheijiaaDoor.L
open Go.RowKit Go.OB Go.Lf
/- orangebox/fleet.CheckTable -/
set_option maxHeartbeats 4000000 in
theorem F_fleet_CheckTable_w (p0 : List FleetRow) (v1 : Value) (r : Int) (hF : F_fleet_CheckTable p0 = some r) (O S : List Nat) (w : World) (H : Hd O w w S [.fz (.sl rFleetRow v1 p0)]) :
    Calls Tryd.prog 7 ([v1] : List Value).toArray w fun e w' => e = .returned (.int .i64 r) ∧ Hd O w w' S [] := by
  unfold F_fleet_CheckTable at hF
  refine calls_of_WP 67 Tryd.func7 rfl rfl rfl ?_
  refine WP_seq_k fun K3 hK3 => ?_
  refine WP_region ?_
  refine RL_do rfl rfl (Do_assign (v := .int .i64 0) rfl) ?_
  refine (RL_nil (thenQ_n (hK3 _ _ ?_)))
  refine WP_seq_k fun K14 hK14 => ?_
  refine WP_seq_k fun K15 hK15 => ?_
  refine WP_region ?_
  refine RL_do rfl rfl (Do_move (v := v1) rfl) ?_
  obtain ⟨x16, e17, hF⟩ := letO_some hF
  obtain ⟨a18, c19, q20⟩ := SlF.len ((H.item (i := 0) rfl))
  refine RL_do rfl rfl (Do_as (Do_len u22 q20) (congrArg (Value.int .i64) e17)) ?_
  obtain ⟨x21, e22, hF⟩ := letO_some hF
  refine RL_do rfl rfl (Do_as (Do_gtr (a := x16) (b := 300) rfl rfl) (congrArg Value.bool e22)) ?_
  refine (RL_nil (thenQ_n (hK15 _ _ ?_)))
  refine WP_ifb (b := x21) rfl (fun c23 => ?_) (fun c23 => ?_)
  · have hF := iteB_t c23 hF
    refine WP_seq_k fun K24 hK24 => ?_
    refine WP_region ?_
    refine RL_do rfl rfl (Do_assign (v := .int .i64 3) rfl) ?_
    refine (RL_nil (thenQ_n (hK24 _ _ ?_)))
    have hR := Option.some.inj hF
    subst hR
    refine (WP_ret (thenQ_r (post1 (v1 := .int .i64 3) rfl rfl ?_)))
    exact ⟨rfl, H.pick [] (by decide)⟩
  · have hF := iteB_f c23 hF
    refine (WP_skip (thenQ_n (hK14 _ _ ?_)))
    refine WP_seq_k fun K25 hK25 => ?_
    refine WP_region ?_
    refine RL_do rfl rfl (Do_move (v := v1) rfl) ?_
    have H26 := H
    obtain ⟨x27, e28, hF⟩ := bindO_some hF
    refine RL_call rfl rfl (DoC_func en25 rfl) (F_slices_IndexFunc___api_FleetRow_api_FleetRow__fleet_CheckTable_1_w p0 v1 _ e28 _ _ _ (H.enter [] [0] (by decide) rfl)) ?_
    rintro _ w29 ⟨rfl, G30⟩
    have H := H26.step (G30.only : Only [] _ _)
    refine ⟨_, rfl, ?_⟩
    refine RL_do rfl rfl (Do_assign (v := .int .i64 x27) rfl) ?_
    refine (RL_nil (thenQ_n (hK25 _ _ ?_)))
    refine WP_seq_k fun K31 hK31 => ?_
    refine WP_region ?_
    refine RL_do rfl rfl (Do_assign (v := .func (.func 27) #[] #[]) rfl) ?_
    refine (RL_nil (thenQ_n (hK31 _ _ ?_)))
    obtain ⟨k476, ek477, hF⟩ := joinO_some hF
    refine WP_seqS [2, 5, 6, 12, 13, 14, 15, 16, 17, 18, 19, 20, 21, 22, 23, 24, 25, 26, 27, 28, 29, 30, 31, 32, 33, 34, 35, 36, 37, 38, 39, 40, 41, 42, 43, 44, 45, 46, 47, 48, 49, 50, 51, 52, 53, 54, 55, 56, 57, 58, 59, 60, 61, 62, 63, 64, 65, 66] (fun (g : Unit) => []) (fun g wl => Hd O w wl S [] ∧ k476 () = some r) ?_ ?_
    · skip
      refine WP_seq_k fun K478 hK478 => ?_
      refine WP_region ?_
      refine RL_do rfl rfl (Do_move (v := v1) rfl) ?_
      obtain ⟨x479, e480, hF⟩ := letO_some hF
      obtain ⟨a481, c482, q483⟩ := SlF.len ((H.item (i := 0) rfl))
      refine RL_do rfl rfl (Do_as (Do_len u22 q483) (congrArg (Value.int .i64) e480)) ?_
      refine RL_do rfl rfl (Do_move (v := .int .i64 0) rfl) ?_
      refine (RL_nil (thenQ_n (hK478 _ _ ?_)))
      refine WP_block ?_
      unfold F_fleet_CheckTable_L1 at hF
      obtain ⟨B916, n917, eB918, hF⟩ := loopO_some hF
      refine WP_loopS [2, 5, 6, 14, 15, 16, 17, 18, 19, 20, 21, 22, 23, 24, 25, 26, 27, 28, 29, 30, 31, 32, 33, 34, 35, 36, 37, 38, 39, 40, 41, 42, 43, 44, 45, 46, 47, 48, 49, 50, 51, 52, 53, 54, 55, 56, 57, 58, 59, 60, 61, 62, 63, 64, 65, 66] (fun (g : Nat × Int) => [(14, .int .i64 g.2)]) (fun g wl => Hd O w wl S [.fz (.sl rFleetRow v1 p0)] ∧ loopN B916 g.1 g.2 = some r) (fun g => g.1) (n917, 0) (Sl_cons rfl Sl_nil) ⟨H.pick [0] (by decide), hF⟩ ?_
      clear H hF
      rintro ⟨n917, g915⟩ ρ w920 ⟨H, hF⟩
      obtain ⟨n921, rfl, hF⟩ := loopN_pos hF
      have hF := loop_body eB918 hF
      refine WP_seq_k fun K922 hK922 => ?_
      refine WP_region ?_
      obtain ⟨x923, e924, hF⟩ := letO_some hF
      refine RL_do rfl rfl (Do_as (Do_lss (a := g915) (b := x479) rfl rfl) (congrArg Value.bool e924)) ?_
      refine (RL_nil (thenQ_n (hK922 _ _ ?_)))
      refine WP_seq_k fun K926 hK926 => ?_
      refine WP_ifb (b := x923) rfl (fun c927 => ?_) (fun c927 => ?_)
      · have hF := iteB_t c927 hF
        refine (WP_skip (thenQ_n (hK926 _ _ ?_)))
        refine WP_seq_k fun K1031 hK1031 => ?_
        refine WP_block ?_
        refine WP_seq_k fun K1032 hK1032 => ?_
        refine WP_region ?_
        refine RL_do rfl rfl (Do_move (v := .int .i64 g915) rfl) ?_
        obtain ⟨x1033, e1034, hF⟩ := bindO_some hF
        obtain ⟨b1035, o1036, c1037, cs1038, q1039, h1042, h1040, h1041, h1043⟩ := rd_at (H.item (i := 0) rfl) e1034
        obtain ⟨v1044, rfl, h1045⟩ := rFleetRow_open h1042
        have H := H.fzs [.at b1035 (o1036 + g915.toNat * 4) _, .sl (Rp.int .i64) v1044 x1033.Events] ⟨⟨h1040, h1041, h1043⟩, h1045, trivial⟩
        refine RL_do rfl rfl (Do_idx u22 sz25 q1039 rfl (at_some e1034).1 (at_some e1034).2.1 rfl rfl) ?_
        refine RL_do rfl rfl (Do_as (Do_loads (cs := [.string (bs x1033.Key), .bool x1033.Hidden, .int .i64 x1033.Flights, v1044]) agg25 rfl sz25 rfl (H.item (i := 1) rfl).2.2) rfl) ?_
        refine RL_ex rfl rfl (Lx_alloc zero25 H) ?_
        rintro _ w1050 ⟨b1048, rfl, H⟩
        refine RL_do rfl rfl (Do_assign (v := .int .i64 g915) rfl) ?_
        refine RL_exU rfl (Lx_storeN (vs := [.string (bs x1033.Key), .bool x1033.Hidden, .int .i64 x1033.Flights, v1044]) H 3 rfl sz25 rfl rfl rfl ⟨rfl, rfl, rfl, (slf_one (H.item (i := 2) rfl)), trivial⟩ rfl) ?_
        rintro w1051 H
        refine (RL_nil (thenQ_n (hK1032 _ _ ?_)))
        refine WP_block ?_
        refine WP_seq_k fun K1052 hK1052 => ?_
        refine WP_region ?_
        refine RL_do rfl rfl (Do_move (v := v1) rfl) ?_
        refine RL_do rfl rfl (Do_move (v := .int .i64 g915) rfl) ?_
        obtain ⟨x1053, e1054, hF⟩ := bindO_some hF
        refine RL_exP rfl rfl (Lx_slice_h u22 sz25 (H.item (i := 0) rfl) rfl rfl e1054) ?_
        rintro v1055 h1056
        have H := H.fz (.sl rFleetRow v1055 x1053) h1056
        refine RL_do rfl rfl (Do_makeFunc rfl) ?_
        obtain ⟨x1058, e1059, hF⟩ := bindO_some hF
        refine RL_call rfl rfl (DoC_func en29 rfl) (F_slices_ContainsFunc___api_FleetRow_api_FleetRow__fleet_CheckTable_3_w x1053 x1033 v1055 b1048 v1044 _ e1059 _ _ _ (H.enter [3] [4, 2] (by decide) rfl)) ?_
        rintro _ w1060 ⟨rfl, G1061⟩
        have H : Hd O _ w1060 _ [.fz (.sl rFleetRow v1 p0), .fz (.at b1035 (o1036 + g915.toNat * 4) [.string (bs x1033.Key), .bool x1033.Hidden, .int .i64 x1033.Flights, v1044]), .fz (.sl (Rp.int .i64) v1044 x1033.Events), .fz (.sl rFleetRow v1055 x1053), .blk b1048 [.string (bs x1033.Key), .bool x1033.Hidden, .int .i64 x1033.Flights, v1044] 25] := H.back [3] [4, 2] rfl G1061
        refine ⟨_, rfl, ?_⟩
        refine RL_do rfl rfl (Do_assign (v := .bool x1058) rfl) ?_
        refine (RL_nil (thenQ_n (hK1052 _ _ ?_)))
        refine WP_ifb (b := x1058) rfl (fun c1062 => ?_) (fun c1062 => ?_)
        · have hF := iteB_t c1062 hF
          refine WP_seq_k fun K1063 hK1063 => ?_
          refine WP_region ?_
          refine RL_do rfl rfl (Do_assign (v := .int .i64 5) rfl) ?_
          refine (RL_nil (thenQ_n (hK1063 _ _ ?_)))
          have hR := Option.some.inj hF
          subst hR
          refine (WP_ret (blockQ_r (blockQ_r (thenQ_r (thenQ_r (blockQ_r (thenQ_r (post1 (v1 := .int .i64 5) rfl rfl ?_))))))))
          exact ⟨rfl, H.pick [] (by decide)⟩
        · have hF := iteB_f c1062 hF
          obtain ⟨g1075, hF, hK1077⟩ := bindO_some hF
          refine WP_seqS [25, 26, 27, 28, 29, 30, 31, 32, 33, 34, 35, 36, 37, 38] (fun (g : Unit) => [(25, .bool g1075)]) (fun g wl => Hd O w wl S [.fz (.sl rFleetRow v1 p0), .blk b1048 [.string (bs x1033.Key), .bool x1033.Hidden, .int .i64 x1033.Flights, v1044] 25, .fz (.sl (Rp.int .i64) v1044 x1033.Events)]) ?_ ?_
          · skip
            refine WP_region ?_
            refine RL_do rfl rfl (fa25_1 rfl) ?_
            refine RL_do rfl rfl (Do_load one4 rfl (Cells.get (Blk.cells (H.item (i := 4) rfl)) (i := 1) rfl)) ?_
            refine RL_splitb (b := x1033.Hidden) rfl rfl rfl (fun c1078 => ?_) (fun c1078 => ?_)
            · have hF := iteB_t c1078 hF
              refine RL_do rfl rfl (fa25_2 rfl) ?_
              refine RL_do rfl rfl (Do_load one3 rfl (Cells.get (Blk.cells (H.item (i := 4) rfl)) (i := 2) rfl)) ?_
              obtain ⟨x1079, e1080, hF⟩ := letO_some hF
              refine RL_do rfl rfl (Do_as (Do_neq (a := x1033.Flights) (b := 0) rfl rfl) (congrArg Value.bool e1080)) ?_
              refine RL_splitb (b := x1079) rfl rfl rfl (fun c1081 => ?_) (fun c1081 => ?_)
              · have hF := iteB_t c1081 hF
                refine RL_off rfl rfl ?_
                refine RL_off rfl rfl ?_
                refine RL_off rfl rfl ?_
                refine RL_off rfl rfl ?_
                refine RL_do rfl rfl (Do_pick_t (v := .bool true) rfl rfl) ?_
                refine RL_do rfl rfl (Do_pick_t (v := .bool true) rfl rfl) ?_
                refine RL_do rfl rfl (Do_assign (v := .bool true) rfl) ?_
                have hR := Option.some.inj hF
                subst hR
                refine (RL_nil (thenQ_n (And.intro ?_ ?_)))
                · repeat' (first | with_reducible exact Fr_refl | refine Fr_upd rfl ?_ | refine Fr_over rfl rfl ?_)
                · exact ⟨(), (Sl_cons rfl Sl_nil), H.pick [0, 4, 2] (by decide)⟩
              · have hF := iteB_f c1081 hF
                refine RL_do rfl rfl (fa25_3 rfl) ?_
                refine RL_do rfl rfl (Do_load one23 rfl (Cells.get (Blk.cells (H.item (i := 4) rfl)) (i := 3) rfl)) ?_
                obtain ⟨x1082, e1083, hF⟩ := letO_some hF
                obtain ⟨a1084, c1085, q1086⟩ := SlF.len ((H.item (i := 2) rfl))
                refine RL_do rfl rfl (Do_as (Do_len u23 q1086) (congrArg (Value.int .i64) e1083)) ?_
                obtain ⟨x1087, e1088, hF⟩ := letO_some hF
                refine RL_do rfl rfl (Do_as (Do_gtr (a := x1082) (b := 0) rfl rfl) (congrArg Value.bool e1088)) ?_
                refine RL_do rfl rfl (Do_pick_f (v := .bool x1087) rfl rfl) ?_
                refine RL_do rfl rfl (Do_pick_t (v := .bool x1087) rfl rfl) ?_
                refine RL_do rfl rfl (Do_assign (v := .bool x1087) rfl) ?_
                have hR := Option.some.inj hF
                subst hR
                refine (RL_nil (thenQ_n (And.intro ?_ ?_)))
                · repeat' (first | with_reducible exact Fr_refl | refine Fr_upd rfl ?_ | refine Fr_over rfl rfl ?_)
                · exact ⟨(), (Sl_cons rfl Sl_nil), H.pick [0, 4, 2] (by decide)⟩
            · have hF := iteB_f c1078 hF
              refine RL_off rfl rfl ?_
              refine RL_off rfl rfl ?_
              refine RL_off rfl rfl ?_
              refine RL_off rfl rfl ?_
              refine RL_off rfl rfl ?_
              refine RL_off rfl rfl ?_
              refine RL_off rfl rfl ?_
              refine RL_off rfl rfl ?_
              refine RL_off rfl rfl ?_
              refine RL_do rfl rfl (Do_pick_f (v := .bool false) rfl rfl) ?_
              refine RL_do rfl rfl (Do_assign (v := .bool false) rfl) ?_
              have hR := Option.some.inj hF
              subst hR
              refine (RL_nil (thenQ_n (And.intro ?_ ?_)))
              · repeat' (first | with_reducible exact Fr_refl | refine Fr_upd rfl ?_ | refine Fr_over rfl rfl ?_)
              · exact ⟨(), (Sl_cons rfl Sl_nil), H.pick [0, 4, 2] (by decide)⟩
          · rintro _ ρ w1076 H
            have hF := hK1077
            refine WP_ifb (b := g1075) rfl (fun c1089 => ?_) (fun c1089 => ?_)
            · have hF := iteB_t c1089 hF
              refine WP_seq_k fun K1090 hK1090 => ?_
              refine WP_region ?_
              refine RL_do rfl rfl (Do_assign (v := .int .i64 2) rfl) ?_
              refine (RL_nil (thenQ_n (hK1090 _ _ ?_)))
              have hR := Option.some.inj hF
              subst hR
              refine (WP_ret (blockQ_r (blockQ_r (thenQ_r (thenQ_r (blockQ_r (thenQ_r (post1 (v1 := .int .i64 2) rfl rfl ?_))))))))
              exact ⟨rfl, H.pick [] (by decide)⟩
            · have hF := iteB_f c1089 hF
              obtain ⟨g1102, hF, hK1104⟩ := bindO_some hF
              refine WP_seqS [39, 40, 41, 42, 43, 44, 45, 46, 47, 48, 49] (fun (g : Unit) => [(39, .bool g1102)]) (fun g wl => Hd O w wl S [.fz (.sl rFleetRow v1 p0), .blk b1048 [.string (bs x1033.Key), .bool x1033.Hidden, .int .i64 x1033.Flights, v1044] 25, .fz (.sl (Rp.int .i64) v1044 x1033.Events)]) ?_ ?_
              · skip
                refine WP_region ?_
                refine RL_do rfl rfl (Do_move (v := .func (.func 27) #[] #[]) rfl) ?_
                refine RL_do rfl rfl (fa25_2 rfl) ?_
                refine RL_do rfl rfl (Do_load one3 rfl (Cells.get (Blk.cells (H.item (i := 1) rfl)) (i := 2) rfl)) ?_
                have H1105 := H
                obtain ⟨x1106, e1107, hF⟩ := bindO_some hF
                refine RL_call rfl rfl (DoC_clo en27 rfl rfl) (F_fleet_CheckTable_2_w x1033.Flights _ e1107 _ _ _ (H.enter [] [] (by decide) rfl)) ?_
                rintro _ w1108 ⟨rfl, G1109⟩
                have H := H1105.step (G1109.only : Only [] _ _)
                refine ⟨_, rfl, ?_⟩
                refine RL_splitb (b := x1106) rfl rfl rfl (fun c1110 => ?_) (fun c1110 => ?_)
                · have hF := iteB_t c1110 hF
                  refine RL_off rfl rfl ?_
                  refine RL_off rfl rfl ?_
                  refine RL_off rfl rfl ?_
                  refine RL_off rfl rfl ?_
                  refine RL_do rfl rfl (Do_pick_t (v := .bool true) rfl rfl) ?_
                  refine RL_do rfl rfl (Do_assign (v := .bool true) rfl) ?_
                  have hR := Option.some.inj hF
                  subst hR
                  refine (RL_nil (thenQ_n (And.intro ?_ ?_)))
                  · repeat' (first | with_reducible exact Fr_refl | refine Fr_upd rfl ?_ | refine Fr_over rfl rfl ?_)
                  · exact ⟨(), (Sl_cons rfl Sl_nil), H.pick [0, 1, 2] (by decide)⟩
                · have hF := iteB_f c1110 hF
                  refine RL_do rfl rfl (fa25_3 rfl) ?_
                  refine RL_do rfl rfl (Do_load one23 rfl (Cells.get (Blk.cells (H.item (i := 1) rfl)) (i := 3) rfl)) ?_
                  refine RL_do rfl rfl (Do_move (v := .func (.func 27) #[] #[]) rfl) ?_
                  have H1111 := H
                  obtain ⟨x1112, e1113, hF⟩ := bindO_some hF
                  refine RL_call rfl rfl (DoC_func en31 rfl) (F_slices_ContainsFunc___int_int__fleet_CheckTable_2_w x1033.Events v1044 _ e1113 _ _ _ (H.enter [] [2] (by decide) rfl)) ?_
                  rintro _ w1114 ⟨rfl, G1115⟩
                  have H := H1111.step (G1115.only : Only [] _ _)
                  refine ⟨_, rfl, ?_⟩
                  refine RL_do rfl rfl (Do_pick_f (v := .bool x1112) rfl rfl) ?_
                  refine RL_do rfl rfl (Do_assign (v := .bool x1112) rfl) ?_
                  have hR := Option.some.inj hF
                  subst hR
                  refine (RL_nil (thenQ_n (And.intro ?_ ?_)))
                  · repeat' (first | with_reducible exact Fr_refl | refine Fr_upd rfl ?_ | refine Fr_over rfl rfl ?_)
                  · exact ⟨(), (Sl_cons rfl Sl_nil), H.pick [0, 1, 2] (by decide)⟩
              · rintro _ ρ w1103 H
                have hF := hK1104
                refine WP_ifb (b := g1102) rfl (fun c1116 => ?_) (fun c1116 => ?_)
                · have hF := iteB_t c1116 hF
                  refine WP_seq_k fun K1117 hK1117 => ?_
                  refine WP_region ?_
                  refine RL_do rfl rfl (Do_assign (v := .int .i64 9) rfl) ?_
                  refine (RL_nil (thenQ_n (hK1117 _ _ ?_)))
                  have hR := Option.some.inj hF
                  subst hR
                  refine (WP_ret (blockQ_r (blockQ_r (thenQ_r (thenQ_r (blockQ_r (thenQ_r (post1 (v1 := .int .i64 9) rfl rfl ?_))))))))
                  exact ⟨rfl, H.pick [] (by decide)⟩
                · have hF := iteB_f c1116 hF
                  obtain ⟨g1152, hF, hK1154⟩ := bindO_some hF
                  refine WP_seqS [50, 51, 52, 53, 54, 55, 56, 57, 58, 59, 60, 61, 62, 63, 64, 65] (fun (g : Unit) => [(50, .bool g1152)]) (fun g wl => Hd O w wl S [.fz (.sl rFleetRow v1 p0)]) ?_ ?_
                  · skip
                    have H1155 := H
                    have H := H.rebase
                    have H1156 := H
                    refine WP_mix0 H [0, 1, 2, 3, 4, 5, 6, 7, 8, 9, 10, 11, 12, 13, 14, 15] [.pure, .read, .pure, .pure, .pure, .read, .pure, .pure, .pure, .pure, .pure, .read, .pure, .pure, .pure, .pure] mixed (by kernel_rfl) (by kernel_rfl) (by kernel_rfl) rfl ?_
                    refine Mx.XL_pure rfl rfl rfl (fun w' hw' => fa25_1 rfl) ?_
                    refine Mx.XL_read oS rfl rfl rfl (fun w' hw' => Do_load one4 rfl (Cells.get (Blk.cells ((H.sees hw').item (i := 1) rfl)) (i := 1) rfl)) ?_
                    obtain ⟨x1157, e1158, hF⟩ := letO_some hF
                    refine Mx.XL_pure rfl rfl rfl (fun w' hw' => Do_as (Do_not (p := x1033.Hidden) rfl) (congrArg Value.bool e1158)) ?_
                    refine Mx.XL_splitb (b := x1157) rfl rfl rfl rfl (fun c1159 => ?_) (fun c1159 => ?_)
                    · have hF := iteB_t c1159 hF
                      refine Mx.XL_pure rfl rfl rfl (fun w' hw' => fa25_3 rfl) ?_
                      refine Mx.XL_read oS rfl rfl rfl (fun w' hw' => Do_load one23 rfl (Cells.get (Blk.cells ((H.sees hw').item (i := 1) rfl)) (i := 3) rfl)) ?_
                      obtain ⟨x1160, e1161, hF⟩ := letO_some hF
                      obtain ⟨a1162, c1163, q1164⟩ := SlF.len ((H.item (i := 2) rfl))
                      refine Mx.XL_pure rfl rfl rfl (fun w' hw' => Do_as (Do_len u23 q1164) (congrArg (Value.int .i64) e1161)) ?_
                      refine Mx.XL_pure rfl rfl rfl (fun w' hw' => Do_move (v := v1) rfl) ?_
                      refine Mx.XL_pure rfl rfl rfl (fun w' hw' => Do_move (v := .int .i64 x27) rfl) ?_
                      obtain ⟨x1165, e1166, hF⟩ := bindO_some hF
                      obtain ⟨b1167, o1168, c1169, cs1170, q1171, h1174, h1172, h1173, h1175⟩ := rd_at (H.item (i := 0) rfl) e1166
                      obtain ⟨v1176, rfl, h1177⟩ := rFleetRow_open h1174
                      have H := H.fzs [.at b1167 (o1168 + x27.toNat * 4) _, .sl (Rp.int .i64) v1176 x1165.Events] ⟨⟨h1172, h1173, h1175⟩, h1177, trivial⟩
                      refine Mx.XL_pure rfl rfl rfl (fun w' hw' => Do_idx u22 sz25 q1171 rfl (at_some e1166).1 (at_some e1166).2.1 rfl rfl) ?_
                      refine Mx.XL_pure rfl rfl rfl (fun w' hw' => fa25_3 rfl) ?_
                      refine Mx.XL_read oS rfl rfl rfl (fun w' hw' => Do_load one23 rfl (Cells.get ((H.sees hw').item (i := 3) rfl).2.2 (i := 3) rfl)) ?_
                      obtain ⟨x1180, e1181, hF⟩ := letO_some hF
                      obtain ⟨a1182, c1183, q1184⟩ := SlF.len ((H.item (i := 4) rfl))
                      refine Mx.XL_pure rfl rfl rfl (fun w' hw' => Do_as (Do_len u23 q1184) (congrArg (Value.int .i64) e1181)) ?_
                      obtain ⟨x1185, e1186, hF⟩ := letO_some hF
                      refine Mx.XL_pure rfl rfl rfl (fun w' hw' => Do_as (Do_neq (a := x1160) (b := x1180) rfl rfl) (congrArg Value.bool e1186)) ?_
                      refine Mx.XL_pure rfl rfl rfl (fun w' hw' => Do_pick_t (v := .bool x1185) rfl rfl) ?_
                      refine Mx.XL_pure rfl rfl rfl (fun w' hw' => Do_assign (v := .bool x1185) rfl) ?_
                      refine Mx.XL_nil fun w1187 hS => ?_
                      have H := H.sees hS
                      have H := H1155.rejoin H
                      have hR := Option.some.inj hF
                      subst hR
                      refine (thenQ_n (And.intro ?_ ?_))
                      · repeat' (first | with_reducible exact Fr_refl | refine Fr_upd rfl ?_ | refine Fr_over rfl rfl ?_)
                      · exact ⟨(), (Sl_cons rfl Sl_nil), H.pick [0] (by decide)⟩
                    · have hF := iteB_f c1159 hF
                      refine Mx.XL_offp rfl rfl rfl ?_
                      refine Mx.XL_offr oS rfl rfl rfl ?_
                      refine Mx.XL_offp rfl rfl rfl ?_
                      refine Mx.XL_offp rfl rfl rfl ?_
                      refine Mx.XL_offp rfl rfl rfl ?_
                      refine Mx.XL_offp rfl rfl rfl ?_
                      refine Mx.XL_offp rfl rfl rfl ?_
                      refine Mx.XL_offr oS rfl rfl rfl ?_
                      refine Mx.XL_offp rfl rfl rfl ?_
                      refine Mx.XL_offp rfl rfl rfl ?_
                      refine Mx.XL_pure rfl rfl rfl (fun w' hw' => Do_pick_f (v := .bool false) rfl rfl) ?_
                      refine Mx.XL_pure rfl rfl rfl (fun w' hw' => Do_assign (v := .bool false) rfl) ?_
                      refine Mx.XL_nil fun w1188 hS => ?_
                      have H := H.sees hS
                      have H := H1155.rejoin H
                      have hR := Option.some.inj hF
                      subst hR
                      refine (thenQ_n (And.intro ?_ ?_))
                      · repeat' (first | with_reducible exact Fr_refl | refine Fr_upd rfl ?_ | refine Fr_over rfl rfl ?_)
                      · exact ⟨(), (Sl_cons rfl Sl_nil), H.pick [0] (by decide)⟩
                  · rintro _ ρ w1153 H
                    have hF := hK1154
                    refine WP_ifb (b := g1152) rfl (fun c1189 => ?_) (fun c1189 => ?_)
                    · have hF := iteB_t c1189 hF
                      refine WP_seq_k fun K1190 hK1190 => ?_
                      refine WP_region ?_
                      refine RL_do rfl rfl (Do_assign (v := .int .i64 2) rfl) ?_
                      refine (RL_nil (thenQ_n (hK1190 _ _ ?_)))
                      have hR := Option.some.inj hF
                      subst hR
                      refine (WP_ret (blockQ_r (blockQ_r (thenQ_r (thenQ_r (blockQ_r (thenQ_r (post1 (v1 := .int .i64 2) rfl rfl ?_))))))))
                      exact ⟨rfl, H.pick [] (by decide)⟩
                    · have hF := iteB_f c1189 hF
                      refine (WP_skip (blockQ_n (blockQ_n (thenQ_n (hK1031 _ _ ?_)))))
                      refine WP_region ?_
                      obtain ⟨x1191, e1192, hF⟩ := letO_some hF
                      refine RL_do rfl rfl (Do_add (a := g915) (b := 1) rfl rfl e1192) ?_
                      refine RL_do rfl rfl (Do_move (v := .int .i64 x1191) rfl) ?_
                      refine (RL_nil (thenQ_n (And.intro ?_ ?_)))
                      · repeat' (first | with_reducible exact Fr_refl | refine Fr_upd rfl ?_ | refine Fr_over rfl rfl ?_)
                      · exact ⟨(n921, x1191), (Sl_cons rfl Sl_nil), ⟨H.pick [0] (by decide), hF⟩, Nat.lt_succ_self _⟩
      · have hF := iteB_f c927 hF
        refine (WP_exit (thenQ_x (thenQ_x (blockQ_eq (thenQ_n (And.intro ?_ ?_))))))
        · repeat' (first | with_reducible exact Fr_refl | refine Fr_upd rfl ?_ | refine Fr_over rfl rfl ?_)
        · exact ⟨(), Sl_nil, ⟨H.pick [] (by decide), hF⟩⟩
    · rintro _ ρ w475 ⟨H, hF⟩
      have hF := join_body ek477 hF
      refine WP_seq_k fun K1193 hK1193 => ?_
      refine WP_region ?_
      refine RL_do rfl rfl (Do_assign (v := .int .i64 0) rfl) ?_
      refine (RL_nil (thenQ_n (hK1193 _ _ ?_)))
      have hR := Option.some.inj hF
      subst hR
      refine (WP_ret (post1 (v1 := .int .i64 0) rfl rfl ?_))
      exact ⟨rfl, H.pick [] (by decide)⟩
end Go.Proofs.YtbjhondbheijiaaDoor.L
namespace Go.Proofs.YtbjhondbheijiaaDoor.L
open Go.RowKit Go.OB Go.Lf
/- orangebox/fleet.Total -/
set_option maxHeartbeats 4000000 in
theorem F_fleet_Total_w (p0 : List FleetRow) (v1 : Value) (r : FleetRow × Int) (hF : F_fleet_Total p0 = some r) (O S : List Nat) (w : World) (H : Hd O w w S [.fz (.sl rFleetRow v1 p0)]) :
    Calls Tryd.prog 5 ([v1] : List Value).toArray w fun e w' => ∃ u3, e = .returned (.tuple #[.agg [.string (bs r.1.Key), .bool r.1.Hidden, .int .i64 r.1.Flights, u3].toArray, .int .i64 r.2]) ∧ Hd O w w' S [.fz (.sl (Rp.int .i64) u3 r.1.Events)] := by
  unfold F_fleet_Total at hF
  refine calls_of_WP 57 Tryd.func5 rfl rfl rfl ?_
  refine WP_seq_k fun K4 hK4 => ?_
  refine WP_region ?_
  refine RL_ex rfl rfl (Lx_alloc zero25 H) ?_
  rintro _ w7 ⟨b5, rfl, H⟩
  refine RL_do rfl rfl (Do_assign (v := .int .i64 0) rfl) ?_
  refine (RL_nil (thenQ_n (hK4 _ _ ?_)))
  refine WP_seq_k fun K20 hK20 => ?_
  refine WP_seq_k fun K21 hK21 => ?_
  refine WP_region ?_
  refine RL_do rfl rfl (Do_move (v := v1) rfl) ?_
  have H22 := H
  obtain ⟨x23, e24, hF⟩ := bindO_some hF
  refine RL_call rfl rfl (DoC_func en7 rfl) (F_fleet_CheckTable_w p0 v1 _ e24 _ _ _ (H.enter [] [0] (by decide) rfl)) ?_
  rintro _ w25 ⟨rfl, G26⟩
  have H := H22.step (G26.only : Only [] _ _)
  refine ⟨_, rfl, ?_⟩
  refine RL_do rfl rfl (Do_assign (v := .int .i64 x23) rfl) ?_
  refine (RL_nil (thenQ_n (hK21 _ _ ?_)))
  refine WP_seq_k fun K27 hK27 => ?_
  refine WP_region ?_
  refine RL_do rfl rfl (Do_move (v := .int .i64 x23) rfl) ?_
  obtain ⟨x28, e29, hF⟩ := letO_some hF
  refine RL_do rfl rfl (Do_as (Do_neq (a := x23) (b := 0) rfl rfl) (congrArg Value.bool e29)) ?_
  refine (RL_nil (thenQ_n (hK27 _ _ ?_)))
  refine WP_ifb (b := x28) rfl (fun c30 => ?_) (fun c30 => ?_)
  · have hF := iteB_t c30 hF
    refine WP_seq_k fun K31 hK31 => ?_
    refine WP_region ?_
    refine RL_do rfl rfl (Do_build (cs := [.string (bs []), .bool false, .int .i64 0, .slice none 0 0]) bz25) ?_
    refine RL_do rfl rfl (Do_move (v := .int .i64 x23) rfl) ?_
    refine RL_exU rfl (Lx_storeN (vs := [.string (bs []), .bool false, .int .i64 0, .slice none 0 0]) H 1 rfl sz25 rfl rfl rfl ⟨rfl, rfl, rfl, rfl, trivial⟩ rfl) ?_
    rintro w32 H
    refine RL_do rfl rfl (Do_assign (v := .int .i64 x23) rfl) ?_
    refine (RL_nil (thenQ_n (hK31 _ _ ?_)))
    have H := H.fz (.sl (Rp.int .i64) (.slice none 0 0) []) SlF.nil
    have hR := Option.some.inj hF
    subst hR
    refine (WP_ret (thenQ_r (postc1 (v1 := .int .i64 x23) rfl rfl (run_loadVar_agg agg25 sz25 rfl (Blk.cells (H.item (i := 1) rfl))) rfl ?_)))
    exact ⟨.slice none 0 0, rfl, H.pick [2] (by decide)⟩
  · have hF := iteB_f c30 hF
    refine (WP_skip (thenQ_n (hK20 _ _ ?_)))
    refine WP_seq_k fun K34 hK34 => ?_
    refine WP_region ?_
    refine RL_ex rfl rfl (Lx_alloc zero25 H) ?_
    rintro _ w37 ⟨b35, rfl, H⟩
    refine (RL_nil (thenQ_n (hK34 _ _ ?_)))
    obtain ⟨j598, hF, hK597⟩ := bindO_some hF
    refine WP_seqS [7, 8, 9, 16, 17, 18, 19, 20, 21, 22, 23, 24, 25, 26, 27, 28, 29, 30, 31, 32, 33, 34, 35, 36, 37, 38, 39, 40, 41, 42, 43, 44, 45, 46, 47, 48, 49, 50, 51, 52, 53, 54, 55] (fun (g : Value) => []) (fun g wl => Hd O w wl S [.blk b5 [.string (bs []), .bool false, .int .i64 0, .slice none 0 0] 25, .blk b35 [.string (bs []), .bool false, .int .i64 j598.1, g] 25, .own (Rp.int .i64) g 3 j598.2.1, .fz (.nl g j598.2.2)]) ?_ ?_
    · skip
      refine WP_seq_k fun K599 hK599 => ?_
      refine WP_region ?_
      refine RL_do rfl rfl (Do_move (v := v1) rfl) ?_
      obtain ⟨x600, e601, hF⟩ := letO_some hF
      obtain ⟨a602, c603, q604⟩ := SlF.len ((H.item (i := 0) rfl))
      refine RL_do rfl rfl (Do_as (Do_len u22 q604) (congrArg (Value.int .i64) e601)) ?_
      refine RL_do rfl rfl (Do_move (v := .int .i64 0) rfl) ?_
      refine (RL_nil (thenQ_n (hK599 _ _ ?_)))
      refine WP_block ?_
      have H := own_nil H (Rp.int .i64) 3
      have H := H.fz (.nl (.slice none 0 0) true) rfl
      unfold F_fleet_Total_L1 at hF
      obtain ⟨B1152, n1153, eB1154, hF⟩ := loopO_some hF
      refine WP_loopS [7, 8, 9, 18, 19, 20, 21, 22, 23, 24, 25, 26, 27, 28, 29, 30, 31, 32, 33, 34, 35, 36, 37, 38, 39, 40, 41, 42, 43, 44, 45, 46, 47, 48, 49, 50, 51, 52, 53, 54, 55] (fun (g : Nat × Int × Int × (List Int) × Bool × Value) => [(18, .int .i64 g.2.1)]) (fun g wl => Hd O w wl S [.fz (.sl rFleetRow v1 p0), .blk b5 [.string (bs []), .bool false, .int .i64 0, .slice none 0 0] 25, .blk b35 [.string (bs []), .bool false, .int .i64 g.2.2.1, g.2.2.2.2.2] 25, .own (Rp.int .i64) g.2.2.2.2.2 3 g.2.2.2.1, .fz (.nl g.2.2.2.2.2 g.2.2.2.2.1)] ∧ loopN B1152 g.1 (g.2.1, g.2.2.1, g.2.2.2.1, g.2.2.2.2.1) = some j598) (fun g => g.1) (n1153, 0, 0, [], true, .slice none 0 0) (Sl_cons rfl Sl_nil) ⟨H.pick [0, 1, 2, 3, 4] (by decide), hF⟩ ?_
      clear H hF
      rintro ⟨n1153, g1143, g1144, g1146, g1148, v1147⟩ ρ w1156 ⟨H, hF⟩
      obtain ⟨n1157, rfl, hF⟩ := loopN_pos hF
      have hF := loop_body eB1154 hF
      refine WP_seq_k fun K1158 hK1158 => ?_
      refine WP_region ?_
      obtain ⟨x1159, e1160, hF⟩ := letO_some hF
      refine RL_do rfl rfl (Do_as (Do_lss (a := g1143) (b := x600) rfl rfl) (congrArg Value.bool e1160)) ?_
      refine (RL_nil (thenQ_n (hK1158 _ _ ?_)))
      refine WP_seq_k fun K1162 hK1162 => ?_
      refine WP_ifb (b := x1159) rfl (fun c1163 => ?_) (fun c1163 => ?_)
      · have hF := iteB_t c1163 hF
        refine (WP_skip (thenQ_n (hK1162 _ _ ?_)))
        obtain ⟨j1419, hF, hK1418⟩ := bindO_some hF
        refine WP_seqS [7, 8, 9, 20, 21, 22, 23, 24, 25, 26, 27, 28, 29, 30, 31, 32, 33, 34, 35, 36, 37, 38, 39, 40, 41, 42, 43, 44, 45, 46, 47, 48, 49, 50, 51, 52, 53, 54] (fun (g : Value) => []) (fun g wl => Hd O w wl S [.fz (.sl rFleetRow v1 p0), .blk b5 [.string (bs []), .bool false, .int .i64 0, .slice none 0 0] 25, .blk b35 [.string (bs []), .bool false, .int .i64 j1419.1, g] 25, .own (Rp.int .i64) g 3 j1419.2.1, .fz (.nl g j1419.2.2)]) ?_ ?_
        · skip
          refine WP_block ?_
          refine WP_seq_k fun K1420 hK1420 => ?_
          refine WP_region ?_
          obtain ⟨x1421, e1422, hF⟩ := bindO_some hF
          obtain ⟨b1423, o1424, c1425, cs1426, q1427, h1430, h1428, h1429, h1431⟩ := rd_at (H.item (i := 0) rfl) e1422
          obtain ⟨v1432, rfl, h1433⟩ := rFleetRow_open h1430
          have H := H.fzs [.at b1423 (o1424 + g1143.toNat * 4) _, .sl (Rp.int .i64) v1432 x1421.Events] ⟨⟨h1428, h1429, h1431⟩, h1433, trivial⟩
          refine RL_do rfl rfl (Do_idx u22 sz25 q1427 rfl (at_some e1422).1 (at_some e1422).2.1 rfl rfl) ?_
          refine RL_do rfl rfl (Do_as (Do_loads (cs := [.string (bs x1421.Key), .bool x1421.Hidden, .int .i64 x1421.Flights, v1432]) agg25 rfl sz25 rfl (H.item (i := 5) rfl).2.2) rfl) ?_
          refine RL_ex rfl rfl (Lx_alloc zero25 H) ?_
          rintro _ w1438 ⟨b1436, rfl, H⟩
          refine RL_exU rfl (Lx_storeN (vs := [.string (bs x1421.Key), .bool x1421.Hidden, .int .i64 x1421.Flights, v1432]) H 7 rfl sz25 rfl rfl rfl ⟨rfl, rfl, rfl, (slf_one (H.item (i := 6) rfl)), trivial⟩ rfl) ?_
          rintro w1439 H
          refine (RL_nil (thenQ_n (hK1420 _ _ ?_)))
          refine WP_seq_k fun K1442 hK1442 => ?_
          refine WP_seq_k fun K1443 hK1443 => ?_
          refine WP_region ?_
          refine RL_do rfl rfl (fa25_1 rfl) ?_
          refine RL_do rfl rfl (Do_load one4 rfl (Cells.get (Blk.cells (H.item (i := 7) rfl)) (i := 1) rfl)) ?_
          refine (RL_nil (thenQ_n (hK1443 _ _ ?_)))
          refine WP_ifb (b := x1421.Hidden) rfl (fun c1444 => ?_) (fun c1444 => ?_)
          · have hF := iteB_t c1444 hF
            have hR := Option.some.inj hF
            subst hR
            refine (WP_exit (thenQ_x (blockQ_eq (thenQ_n (And.intro ?_ ?_)))))
            · repeat' (first | with_reducible exact Fr_refl | refine Fr_upd rfl ?_ | refine Fr_over rfl rfl ?_)
            · exact ⟨v1147, Sl_nil, H.pick [0, 1, 2, 3, 4] (by decide)⟩
          · have hF := iteB_f c1444 hF
            refine (WP_skip (thenQ_n (hK1442 _ _ ?_)))
            obtain ⟨j1470, hF, hK1469⟩ := bindO_some hF
            refine WP_seqS [24, 25, 26, 27, 28, 29, 30, 31] (fun (g : Value) => []) (fun g wl => Hd O w wl S [.fz (.sl rFleetRow v1 p0), .blk b5 [.string (bs []), .bool false, .int .i64 0, .slice none 0 0] 25, .blk b35 [.string (bs []), .bool false, .int .i64 g1144, g] 25, .own (Rp.int .i64) g 3 j1470.1, .fz (.nl g j1470.2), .blk b1436 [.string (bs x1421.Key), .bool x1421.Hidden, .int .i64 x1421.Flights, v1432] 25, .fz (.sl (Rp.int .i64) v1432 x1421.Events)]) ?_ ?_
            · skip
              refine WP_seq_k fun K1471 hK1471 => ?_
              refine WP_region ?_
              refine RL_do rfl rfl (fa25_3 rfl) ?_
              refine RL_do rfl rfl (Do_load one23 rfl (Cells.get (Blk.cells (H.item (i := 2) rfl)) (i := 3) rfl)) ?_
              refine RL_do rfl rfl (Do_eqlnl u23 (own_sl (H.item (i := 3) rfl)) rfl rfl (H.item (i := 4) rfl)) ?_
              refine (RL_nil (thenQ_n (hK1471 _ _ ?_)))
              refine WP_ifb (b := g1148) rfl (fun c1475 => ?_) (fun c1475 => ?_)
              · have hF := iteB_t c1475 hF
                refine WP_region ?_
                refine RL_do rfl rfl (fa25_3 rfl) ?_
                refine RL_do rfl rfl (Do_load one23 rfl (Cells.get (Blk.cells (H.item (i := 7) rfl)) (i := 3) rfl)) ?_
                obtain ⟨x1476, e1477, hF⟩ := letO_some hF
                obtain ⟨a1478, c1479, q1480⟩ := SlF.len ((H.item (i := 6) rfl))
                refine RL_do rfl rfl (Do_as (Do_len u23 q1480) (congrArg (Value.int .i64) e1477)) ?_
                obtain ⟨x1481, e1482, hF⟩ := bindO_some hF
                refine RL_ex rfl rfl (Lx_makeN (r := (Rp.int .i64)) (zv := .int .i64 0) u23 el3 rfl (fun _ _ => rfl) rfl rfl e1482 H) ?_
                rintro v1484 w1486 ⟨H, h1485⟩
                have H := H.fz (.nl v1484 false) h1485
                refine RL_do rfl rfl (fa25_3 rfl) ?_
                refine RL_exU rfl (Lx_store1 H 2 rfl sz23 rfl (v := v1484) rfl (own_one (H.item (i := 8) rfl)) rfl) ?_
                rintro w1488 H
                have hR := Option.some.inj hF
                subst hR
                refine (RL_nil (thenQ_n (And.intro ?_ ?_)))
                · repeat' (first | with_reducible exact Fr_refl | refine Fr_upd rfl ?_ | refine Fr_over rfl rfl ?_)
                · exact ⟨v1484, Sl_nil, H.pick [0, 1, 2, 8, 9, 7, 6] (by decide)⟩
              · have hF := iteB_f c1475 hF
                have hR := Option.some.inj hF
                subst hR
                refine (WP_skip (thenQ_n (And.intro ?_ ?_)))
                · repeat' (first | with_reducible exact Fr_refl | refine Fr_upd rfl ?_ | refine Fr_over rfl rfl ?_)
                · exact ⟨v1147, Sl_nil, H.pick [0, 1, 2, 3, 4, 7, 6] (by decide)⟩
            · rintro v1465 ρ w1468 H
              have hF := hK1469
              obtain ⟨g1464, g1466⟩ := j1470
              refine WP_seq_k fun K1489 hK1489 => ?_
              refine WP_region ?_
              refine RL_do rfl rfl (fa25_2 rfl) ?_
              refine RL_do rfl rfl (Do_load one3 rfl (Cells.get (Blk.cells (H.item (i := 2) rfl)) (i := 2) rfl)) ?_
              refine RL_do rfl rfl (fa25_2 rfl) ?_
              refine RL_do rfl rfl (Do_load one3 rfl (Cells.get (Blk.cells (H.item (i := 5) rfl)) (i := 2) rfl)) ?_
              obtain ⟨x1490, e1491, hF⟩ := letO_some hF
              refine RL_do rfl rfl (Do_add (a := g1144) (b := x1421.Flights) rfl rfl e1491) ?_
              refine RL_do rfl rfl (fa25_2 rfl) ?_
              refine RL_exU rfl (Lx_store1 H 2 rfl sz3 rfl (v := .int .i64 x1490) rfl rfl rfl) ?_
              rintro w1492 H
              refine (RL_nil (thenQ_n (hK1489 _ _ ?_)))
              refine WP_seq_k fun K1493 hK1493 => ?_
              refine WP_region ?_
              refine RL_do rfl rfl (fa25_3 rfl) ?_
              refine RL_do rfl rfl (Do_load one23 rfl (Cells.get (Blk.cells (H.item (i := 5) rfl)) (i := 3) rfl)) ?_
              obtain ⟨x1494, e1495, hF⟩ := letO_some hF
              obtain ⟨a1496, c1497, q1498⟩ := SlF.len ((H.item (i := 6) rfl))
              refine RL_do rfl rfl (Do_as (Do_len u23 q1498) (congrArg (Value.int .i64) e1495)) ?_
              refine RL_do rfl rfl (Do_move (v := .int .i64 0) rfl) ?_
              refine (RL_nil (thenQ_n (hK1493 _ _ ?_)))
              refine WP_block ?_
              unfold F_fleet_Total_L2 at hF
              obtain ⟨B1681, n1682, eB1683, hF⟩ := loopO_some hF
              refine WP_loopS [8, 9, 41, 42, 43, 44, 45, 46, 47, 48, 49, 50, 51, 52, 53, 54] (fun (g : Nat × Int × (List Int)) => [(41, .int .i64 g.2.1)]) (fun g wl => Hd O w wl S [.fz (.sl rFleetRow v1 p0), .blk b5 [.string (bs []), .bool false, .int .i64 0, .slice none 0 0] 25, .blk b35 [.string (bs []), .bool false, .int .i64 x1490, v1465] 25, .own (Rp.int .i64) v1465 3 g.2.2, .fz (.nl v1465 g1466), .fz (.sl (Rp.int .i64) v1432 x1421.Events)] ∧ loopN B1681 g.1 (g.2.1, g.2.2) = some j1419) (fun g => g.1) (n1682, 0, g1464) (Sl_cons rfl Sl_nil) ⟨H.pick [0, 1, 2, 3, 4, 6] (by decide), hF⟩ ?_
              clear H hF
              rintro ⟨n1682, g1679, g1680⟩ ρ w1685 ⟨H, hF⟩
              obtain ⟨n1686, rfl, hF⟩ := loopN_pos hF
              have hF := loop_body eB1683 hF
              refine WP_seq_k fun K1687 hK1687 => ?_
              refine WP_region ?_
              obtain ⟨x1688, e1689, hF⟩ := letO_some hF
              refine RL_do rfl rfl (Do_as (Do_lss (a := g1679) (b := x1494) rfl rfl) (congrArg Value.bool e1689)) ?_
              refine (RL_nil (thenQ_n (hK1687 _ _ ?_)))
              refine WP_seq_k fun K1691 hK1691 => ?_
              refine WP_ifb (b := x1688) rfl (fun c1692 => ?_) (fun c1692 => ?_)
              · have hF := iteB_t c1692 hF
                refine (WP_skip (thenQ_n (hK1691 _ _ ?_)))
                refine WP_seq_k fun K1733 hK1733 => ?_
                refine WP_block ?_
                refine WP_seq_k fun K1734 hK1734 => ?_
                refine WP_region ?_
                refine RL_do rfl rfl (Do_move (v := .int .i64 g1679) rfl) ?_
                obtain ⟨x1735, e1736, hF⟩ := bindO_some hF
                obtain ⟨b1737, o1738, c1739, cs1740, q1741, h1744, h1742, h1743, h1745⟩ := rd_at (H.item (i := 5) rfl) e1736
                obtain rfl : cs1740 = [.int .i64 x1735] := h1744
                have H := H.fz (.at b1737 (o1738 + g1679.toNat * 1) _) ⟨h1742, h1743, h1745⟩
                refine RL_do rfl rfl (Do_idx u23 sz3 q1741 rfl (at_some e1736).1 (at_some e1736).2.1 rfl rfl) ?_
                refine RL_do rfl rfl (Do_load one3 rfl (Cells.get (H.item (i := 6) rfl).2.2 (i := 0) rfl)) ?_
                refine RL_do rfl rfl (Do_assign (v := .int .i64 g1679) rfl) ?_
                refine RL_do rfl rfl (Do_assign (v := .int .i64 x1735) rfl) ?_
                refine (RL_nil (thenQ_n (hK1734 _ _ ?_)))
                refine WP_region ?_
                refine RL_do rfl rfl (fa25_3 rfl) ?_
                refine RL_do rfl rfl (Do_load one23 rfl (Cells.get (Blk.cells (H.item (i := 2) rfl)) (i := 3) rfl)) ?_
                refine RL_do rfl rfl (Do_move (v := .int .i64 g1679) rfl) ?_
                obtain ⟨x1747, e1748, hF⟩ := bindO_some hF
                obtain ⟨b1749, c1751, cs1752, q1753, h1756, h1757⟩ := own_at (H.item (i := 3) rfl) e1748
                obtain rfl : cs1752 = [.int .i64 x1747] := h1756
                refine RL_do rfl rfl (Do_idx u23 sz3 q1753 rfl (at_some e1748).1 (at_some e1748).2.1 rfl rfl) ?_
                refine RL_do rfl rfl (Do_load one3 rfl (Cells.get h1757 (i := 0) rfl)) ?_
                refine RL_do rfl rfl (Do_move (v := .int .i64 x1735) rfl) ?_
                obtain ⟨x1758, e1759, hF⟩ := letO_some hF
                refine RL_do rfl rfl (Do_add (a := x1747) (b := x1735) rfl rfl e1759) ?_
                obtain ⟨x1760, e1761, hF⟩ := bindO_some hF
                obtain ⟨b1762, c1764, cs1765, q1766, h1769, h1770⟩ := own_at (H.item (i := 3) rfl) e1761
                obtain rfl : cs1765 = [.int .i64 x1760] := h1769
                refine RL_do rfl rfl (Do_idx u23 sz3 q1766 rfl (at_some e1761).1 (at_some e1761).2.1 rfl rfl) ?_
                obtain ⟨x1771, e1772, hF⟩ := bindO_some hF
                refine RL_exU rfl (Lx_own_store (vs := [.int .i64 x1758]) (off := 0) H 3 rfl q1766 h1770 rfl sz3 rfl rfl rfl (allone_mem ⟨rfl, trivial⟩) e1772 (by decide) rfl rfl) ?_
                rintro w1773 H
                refine (RL_nil (blockQ_n (thenQ_n (hK1733 _ _ ?_))))
                refine WP_region ?_
                obtain ⟨x1774, e1775, hF⟩ := letO_some hF
                refine RL_do rfl rfl (Do_add (a := g1679) (b := 1) rfl rfl e1775) ?_
                refine RL_do rfl rfl (Do_move (v := .int .i64 x1774) rfl) ?_
                refine (RL_nil (thenQ_n (And.intro ?_ ?_)))
                · repeat' (first | with_reducible exact Fr_refl | refine Fr_upd rfl ?_ | refine Fr_over rfl rfl ?_)
                · exact ⟨(n1686, x1774, x1771), (Sl_cons rfl Sl_nil), ⟨H.pick [0, 1, 2, 3, 4, 5] (by decide), hF⟩, Nat.lt_succ_self _⟩
              · have hF := iteB_f c1692 hF
                have hR := Option.some.inj hF
                subst hR
                refine (WP_exit (thenQ_x (thenQ_x (blockQ_eq (blockQ_n (thenQ_n (And.intro ?_ ?_)))))))
                · repeat' (first | with_reducible exact Fr_refl | refine Fr_upd rfl ?_ | refine Fr_over rfl rfl ?_)
                · exact ⟨v1465, Sl_nil, H.pick [0, 1, 2, 3, 4] (by decide)⟩
        · rintro v1414 ρ w1417 H
          have hF := hK1418
          obtain ⟨g1411, g1413, g1415⟩ := j1419
          refine WP_region ?_
          obtain ⟨x1776, e1777, hF⟩ := letO_some hF
          refine RL_do rfl rfl (Do_add (a := g1143) (b := 1) rfl rfl e1777) ?_
          refine RL_do rfl rfl (Do_move (v := .int .i64 x1776) rfl) ?_
          refine (RL_nil (thenQ_n (And.intro ?_ ?_)))
          · repeat' (first | with_reducible exact Fr_refl | refine Fr_upd rfl ?_ | refine Fr_over rfl rfl ?_)
          · exact ⟨(n1157, x1776, g1411, g1413, g1415, v1414), (Sl_cons rfl Sl_nil), ⟨H.pick [0, 1, 2, 3, 4] (by decide), hF⟩, Nat.lt_succ_self _⟩
      · have hF := iteB_f c1163 hF
        have hR := Option.some.inj hF
        subst hR
        refine (WP_exit (thenQ_x (thenQ_x (blockQ_eq (thenQ_n (And.intro ?_ ?_))))))
        · repeat' (first | with_reducible exact Fr_refl | refine Fr_upd rfl ?_ | refine Fr_over rfl rfl ?_)
        · exact ⟨v1147, Sl_nil, H.pick [1, 2, 3, 4] (by decide)⟩
    · rintro v593 ρ w596 H
      have hF := hK597
      obtain ⟨g590, g592, g594⟩ := j598
      refine WP_seq_k fun K1778 hK1778 => ?_
      refine WP_region ?_
      refine RL_do rfl rfl (Do_as (Do_loads (cs := [.string (bs []), .bool false, .int .i64 g590, v593]) agg25 rfl sz25 rfl (Blk.cells (H.item (i := 1) rfl))) rfl) ?_
      refine RL_exU rfl (Lx_storeN (vs := [.string (bs []), .bool false, .int .i64 g590, v593]) H 0 rfl sz25 rfl rfl rfl ⟨rfl, rfl, rfl, (own_one (H.item (i := 2) rfl)), trivial⟩ rfl) ?_
      rintro w1779 H
      refine RL_do rfl rfl (Do_assign (v := .int .i64 0) rfl) ?_
      refine (RL_nil (thenQ_n (hK1778 _ _ ?_)))
      have H := H.freeze (i := 2) rfl
      have hR := Option.some.inj hF
      subst hR
      refine (WP_ret (postc1 (v1 := .int .i64 0) rfl rfl (run_loadVar_agg agg25 sz25 rfl (Blk.cells (H.item (i := 0) rfl))) rfl ?_))
      exact ⟨v593, rfl, H.pick [2] (by decide)⟩
end Go.Proofs.YtbjhondbheijiaaDoor.L
namespace Go.Proofs.YtbjhondbheijiaaDoor.L
open Go.RowKit Go.OB Go.Lf
/- orangebox/orangeboxref9.outside -/
set_option maxHeartbeats 4000000 in
theorem F_ref9_outside_w (p0 : Int) (p1 : Int) (p2 : Int) (r : Bool) (hF : F_ref9_outside p0 p1 p2 = some r) (O S : List Nat) (w : World) (H : Hd O w w S []) :
    Calls Tryd.prog 32 ([.int .i64 p0, .int .i64 p1, .int .i64 p2] : List Value).toArray w fun e w' => e = .returned (.bool r) ∧ Hd O w w' S [] := by
  unfold F_ref9_outside at hF
  refine calls_of_WP 15 Tryd.func32 rfl rfl rfl ?_
  refine WP_seq_k fun K1 hK1 => ?_
  refine WP_region ?_
  refine RL_do rfl rfl (Do_assign (v := .bool false) rfl) ?_
  refine (RL_nil (thenQ_n (hK1 _ _ ?_)))
  obtain ⟨g7, hF, hK9⟩ := bindO_some hF
  refine WP_seqS [6, 7, 8, 9, 10, 11, 12, 13, 14] (fun (g : Unit) => [(6, .bool g7)]) (fun g wl => Hd O w wl S []) ?_ ?_
  · skip
    refine WP_region ?_
    refine RL_do rfl rfl (Do_move (v := .int .i64 p0) rfl) ?_
    refine RL_do rfl rfl (Do_move (v := .int .i64 p1) rfl) ?_
    obtain ⟨x10, e11, hF⟩ := letO_some hF
    refine RL_do rfl rfl (Do_as (Do_lss (a := p0) (b := p1) rfl rfl) (congrArg Value.bool e11)) ?_
    refine RL_splitb (b := x10) rfl rfl rfl (fun c12 => ?_) (fun c12 => ?_)
    · have hF := iteB_t c12 hF
      refine RL_off rfl rfl ?_
      refine RL_off rfl rfl ?_
      refine RL_off rfl rfl ?_
      refine RL_do rfl rfl (Do_pick_t (v := .bool true) rfl rfl) ?_
      refine RL_do rfl rfl (Do_assign (v := .bool true) rfl) ?_
      have hR := Option.some.inj hF
      subst hR
      refine (RL_nil (thenQ_n (And.intro ?_ ?_)))
      · repeat' (first | with_reducible exact Fr_refl | refine Fr_upd rfl ?_ | refine Fr_over rfl rfl ?_)
      · exact ⟨(), (Sl_cons rfl Sl_nil), H.pick [] (by decide)⟩
    · have hF := iteB_f c12 hF
      refine RL_do rfl rfl (Do_move (v := .int .i64 p0) rfl) ?_
      refine RL_do rfl rfl (Do_move (v := .int .i64 p2) rfl) ?_
      obtain ⟨x13, e14, hF⟩ := letO_some hF
      refine RL_do rfl rfl (Do_as (Do_gtr (a := p0) (b := p2) rfl rfl) (congrArg Value.bool e14)) ?_
      refine RL_do rfl rfl (Do_pick_f (v := .bool x13) rfl rfl) ?_
      refine RL_do rfl rfl (Do_assign (v := .bool x13) rfl) ?_
      have hR := Option.some.inj hF
      subst hR
      refine (RL_nil (thenQ_n (And.intro ?_ ?_)))
      · repeat' (first | with_reducible exact Fr_refl | refine Fr_upd rfl ?_ | refine Fr_over rfl rfl ?_)
      · exact ⟨(), (Sl_cons rfl Sl_nil), H.pick [] (by decide)⟩
  · rintro _ ρ w8 H
    have hF := hK9
    have hR := Option.some.inj hF
    subst hR
    refine (WP_ret (post1 (v1 := .bool g7) rfl rfl ?_))
    exact ⟨rfl, H.pick [] (by decide)⟩
end Go.Proofs.YtbjhondbheijiaaDoor.L
