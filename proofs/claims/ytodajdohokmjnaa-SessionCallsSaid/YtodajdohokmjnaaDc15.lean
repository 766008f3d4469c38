/-
  Printed by the decompiler (dec.py) out of the seat's translation. Each function meets its functional program. Conditions: none.
-/
import Derived.Test.YtodajdohokmjnaaDc0
import Derived.Test.YtodajdohokmjnaaDc1
import Derived.Test.YtodajdohokmjnaaDc2
import Derived.Test.YtodajdohokmjnaaDc7
import Derived.Test.YtodajdohokmjnaaDc9
namespace Go.Proofs.Ytodajdohokmjnaa
open Go Gv
set_option linter.unusedVariables false
set_option linter.unusedSimpArgs false
set_option maxRecDepth 100000
set_option maxHeartbeats 2000000 in
theorem C_session_Arbitrate {x0 : T_session_State} {x1 : T_api_Schema} {x2 : Int} {x3 : Int} {x4 : T_api_Value}  {r : T_session_State × Bool × Int} (h : L_session_Arbitrate x0 x1 x2 x3 x4 = some r) : Meets Try.prog 17 [VP.of (x0), VP.of (x1), VP.of (x2), VP.of (x3), VP.of (x4)] (VP.tup [VP.of (r.1), VP.of (r.2.1), VP.of (r.2.2)]) := by
  unfold L_session_Arbitrate at h
  refine Meets.of Try.func17 rfl Try.ntmps17 rfl fun W A => ?_
  refine Wp.seq ?_
  refine Wp.reg ?_
  refine Sq.box (z := (x0 : T_session_State)) (look_t rfl) rfl fun p1 => ?_
  refine Sq.box (z := (x1 : T_api_Schema)) (look_t rfl) rfl fun p2 => ?_
  refine Sq.box (z := (x2 : Int)) (look_t rfl) rfl fun p3 => ?_
  refine Sq.box (z := (x3 : Int)) (look_t rfl) rfl fun p4 => ?_
  refine Sq.box (z := (x4 : T_api_Value)) (look_t rfl) rfl fun p5 => ?_
  refine Sq.alloc zr40 rfl fun p6 => ?_
  refine Sq.v (r_asg (look_bool false)) rfl rfl rfl ?_
  refine Sq.v (r_asg (look_int 0)) rfl rfl rfl ?_
  refine Sq.nil ?_
  refine To.next ?_
  refine Wp.seq ?_
  refine Wp.reg ?_
  refine Sq.share (α := Int) 3 7 rfl rfl ?_
  refine Sq.share (α := Int) 2 8 rfl rfl ?_
  refine Sq.share (α := T_api_Value) 1 9 rfl rfl ?_
  refine Sq.v (r_clo1 (F := (fun a0 => L_session_Arbitrate_fn1 a0 x2 x3 x4)) (τs := [VP.ptr x2, VP.ptr x3, VP.ptr x4]) en63 ⟨look_t rfl, look_t rfl, look_t rfl, trivial⟩ (fun _ _ h => C_session_Arbitrate_fn1 h)) rfl rfl rfl ?_
  refine Sq.v (r_asg (look_t rfl)) rfl rfl rfl ?_
  refine Sq.nil ?_
  refine To.next ?_
  refine Wp.seq ?_
  refine Wp.block ?_
  refine Wp.seq ?_
  refine Wp.reg ?_
  refine Sq.v (r_loadp ty3 (look_t rfl)) rfl rfl rfl ?_
  obtain ⟨y1, hy1, h⟩ := bind_some h
  refine Sq.v (r_call en55 (C_session_controls hy1) ⟨look_t rfl, trivial⟩) rfl rfl rfl ?_
  refine Sq.v (r_not (look_t rfl)) rfl rfl rfl ?_
  refine Sq.v (r_asg (look_t rfl)) rfl rfl rfl ?_
  refine Sq.nil ?_
  refine To.next ?_
  refine Wp.cond (look_t rfl) (fun hc => ?_) (fun hc => ?_)
  · replace h := cond_t hc h
    refine Wp.seq ?_
    refine Wp.reg ?_
    refine Sq.v (r_build (b := (default : T_session_State)) rfl bu40 zr40 (.nil)) rfl rfl rfl ?_
    refine Sq.store (i := 0) (Lens.id T_session_State) (v := ((default : T_session_State) : T_session_State)) (b' := ((default : T_session_State) : T_session_State)) ty40 (look_t rfl) (look_t rfl) rfl rfl rfl ?_
    refine Sq.v (r_asg (look_bool false)) rfl rfl rfl ?_
    refine Sq.v (r_asg (look_int 4)) rfl rfl rfl ?_
    refine Sq.nil ?_
    refine To.next ?_
    refine Wp.ret ?_
    refine To.bret ?_
    refine To.ret ?_
    replace h := some_in h
    subst h
    exact To.end3 rfl (rv_c (i := 0) ty40 rfl rfl) (rv_t rfl) (rv_t rfl)
  · replace h := cond_f hc h
    refine Wp.seq ?_
    refine Wp.reg ?_
    refine Sq.v (r_load (i := 4) (Lens.id T_api_Schema) (r := x1) ty33 (look_t rfl) rfl rfl rfl) rfl rfl rfl ?_
    refine Sq.v (r_loadp ty3 (look_t rfl)) rfl rfl rfl ?_
    obtain ⟨y2, hy2, h⟩ := bind_some h
    refine Sq.v (r_call en64 (C_check_RoleOf hy2) ⟨look_t rfl, look_t rfl, trivial⟩) rfl rfl rfl ?_
    refine Sq.v (r_lss (look_t rfl) (look_int 0)) rfl rfl rfl ?_
    refine Sq.v (r_asg (look_t rfl)) rfl rfl rfl ?_
    refine Sq.nil ?_
    refine To.next ?_
    refine Wp.cond (look_t rfl) (fun hc => ?_) (fun hc => ?_)
    · replace h := cond_t hc h
      refine Wp.seq ?_
      refine Wp.reg ?_
      refine Sq.v (r_build (b := (default : T_session_State)) rfl bu40 zr40 (.nil)) rfl rfl rfl ?_
      refine Sq.store (i := 0) (Lens.id T_session_State) (v := ((default : T_session_State) : T_session_State)) (b' := ((default : T_session_State) : T_session_State)) ty40 (look_t rfl) (look_t rfl) rfl rfl rfl ?_
      refine Sq.v (r_asg (look_bool false)) rfl rfl rfl ?_
      refine Sq.v (r_asg (look_int 21)) rfl rfl rfl ?_
      refine Sq.nil ?_
      refine To.next ?_
      refine Wp.ret ?_
      refine To.bret ?_
      refine To.ret ?_
      replace h := some_in h
      subst h
      exact To.end3 rfl (rv_c (i := 0) ty40 rfl rfl) (rv_t rfl) (rv_t rfl)
    · replace h := cond_f hc h
      refine Wp.seq ?_
      refine Wp.reg ?_
      refine Sq.v (r_loadp ty47 (look_t rfl)) rfl rfl rfl ?_
      refine Sq.v (r_build (b := (default : T_api_Value)) rfl bu47 zr47 (.nil)) rfl rfl rfl ?_
      refine Sq.v (r_eqA eqv47 rfl eqg47 rfl (look_t rfl) (look_t rfl)) rfl rfl rfl ?_
      refine Sq.v (r_move (look_t rfl)) rfl rfl rfl ?_
      refine Sq.g (fun hb => r_fa fd40_0 (look_t rfl)) rfl rfl rfl rfl rfl ?_
      refine Sq.g (fun hb => r_load (i := 5) ((Lens.id T_session_State).comp le_T_session_State_Sessions) (r := x0.f_Sessions) ty37 (look_tc rfl hb) rfl rfl rfl) rfl rfl rfl rfl rfl ?_
      refine Sq.g (fun hb => r_move (look_t rfl)) rfl rfl rfl rfl rfl ?_
      obtain ⟨y3, hy3, h⟩ := bind_some h
      refine Sq.g (fun hb => r_call en65 (C_slices_ContainsFunc_session_Session (condM_some hy3 hb)) ⟨look_tc rfl hb, look_tc rfl hb, trivial⟩) rfl rfl rfl rfl rfl ?_
      refine Sq.v (r_or (look_t rfl) (look_t rfl) (fun h => h)) rfl rfl rfl ?_
      refine Sq.v (r_asg (look_t rfl)) rfl rfl rfl ?_
      refine Sq.nil ?_
      refine To.next ?_
      refine Wp.cond (look_t rfl) (fun hc => ?_) (fun hc => ?_)
      · replace h := cond_t hc h
        refine Wp.seq ?_
        refine Wp.reg ?_
        refine Sq.v (r_build (b := (default : T_session_State)) rfl bu40 zr40 (.nil)) rfl rfl rfl ?_
        refine Sq.store (i := 0) (Lens.id T_session_State) (v := ((default : T_session_State) : T_session_State)) (b' := ((default : T_session_State) : T_session_State)) ty40 (look_t rfl) (look_t rfl) rfl rfl rfl ?_
        refine Sq.v (r_asg (look_bool false)) rfl rfl rfl ?_
        refine Sq.v (r_asg (look_int 23)) rfl rfl rfl ?_
        refine Sq.nil ?_
        refine To.next ?_
        refine Wp.ret ?_
        refine To.bret ?_
        refine To.ret ?_
        replace h := some_in h
        subst h
        exact To.end3 rfl (rv_c (i := 0) ty40 rfl rfl) (rv_t rfl) (rv_t rfl)
      · replace h := cond_f hc h
        refine Wp.skip ?_
        refine To.bnorm ?_
        refine To.next ?_
        refine Wp.seq ?_
        refine Wp.reg ?_
        refine Sq.v (r_load (i := 5) (Lens.id T_session_State) (r := x0) ty40 (look_t rfl) rfl rfl rfl) rfl rfl rfl ?_
        refine Sq.v (r_loadp ty3 (look_t rfl)) rfl rfl rfl ?_
        obtain ⟨y4, hy4, h⟩ := bind_some h
        refine Sq.v (r_call en66 (C_session_top hy4) ⟨look_t rfl, look_t rfl, trivial⟩) rfl rfl rfl ?_
        refine Sq.alloc zr47 rfl fun p7 => ?_
        refine Sq.store (i := 0) (Lens.id T_api_Value) (v := (y4 : T_api_Value)) (b' := (y4 : T_api_Value)) ty47 (look_t rfl) (look_t rfl) rfl rfl rfl ?_
        refine Sq.nil ?_
        refine To.next ?_
        refine Wp.seq ?_
        refine Wp.seq ?_
        refine Wp.reg ?_
        refine Sq.v (r_load (i := 0) (Lens.id T_api_Value) (r := y4) ty47 (look_t rfl) rfl rfl rfl) rfl rfl rfl ?_
        refine Sq.v (r_loadp ty47 (look_t rfl)) rfl rfl rfl ?_
        obtain ⟨y5, hy5, h⟩ := bind_some h
        refine Sq.v (r_call en67 (C_value_Compare hy5) ⟨look_t rfl, look_t rfl, trivial⟩) rfl rfl rfl ?_
        refine Sq.v (r_lss (look_t rfl) (look_int 0)) rfl rfl rfl ?_
        refine Sq.nil ?_
        refine To.next ?_
        obtain ⟨m1, hm1, h⟩ := bind_some h
        refine Wp.condM (γ := Unit) (fun g1 => [(0, VP.of (x0)), (1, VP.of (x1)), (2, VP.of (x2)), (3, VP.of (x3)), (4, VP.of (x4)), (5, VP.eq (.pointer (some ⟨p1, 0, none⟩))), (6, VP.eq (.pointer (some ⟨p2, 0, none⟩))), (7, VP.ptr x2), (8, VP.ptr x3), (9, VP.ptr x4), (10, VP.eq (.pointer (some ⟨p6, 0, none⟩))), (11, VP.of (false)), (12, VP.of (0 : Int)), (13, VP.fn1 Try.prog (fun a0 => L_session_Arbitrate_fn1 a0 x2 x3 x4)), (14, VP.eq (.pointer (some ⟨p7, 0, none⟩))), (17, VP.of (!y1)), (22, VP.of (decide (y2 < 0))), (28, VP.of ((decide (x4 = (default : T_api_Value))) || y3)), (45, VP.of (decide (y5 < 0)))]) (fun g1 => [⟨some p7, .var (m1 : T_api_Value)⟩, ⟨some p6, .var ((default : T_session_State) : T_session_State)⟩, ⟨none, .dead⟩, ⟨none, .dead⟩, ⟨none, .dead⟩, ⟨some p2, .var (x1 : T_api_Schema)⟩, ⟨some p1, .var (x0 : T_session_State)⟩]) (look_t rfl) (fun g1 => ?_) (fun hm hc => ?_) (fun hm hc => ?_)
        · clear hm1
          refine To.next ?_
          refine Wp.seq ?_
          obtain ⟨z1, hz1, h⟩ := bind_some h
          obtain ⟨y6, hy6, h⟩ := bind_some h
          obtain ⟨y7, hy7, h⟩ := bind_some h
          refine Wp.draw mixed 15 [some 47, some 48, some 49, some 50, some 51, some 52, some 53, some 54, some 55, some 56, some 57, some 58, some 59, some 60, some 15] [[], [0], [], [], [], [2, 3, 4], [1, 5], [], [7], [], [], [9, 10], [8, 11], [6, 12], []] [.val (VP.eq (.pointer (some ⟨p1, 0 + 0, none⟩))), .val (VP.of (x0.f_Sessions)), .val (VP.of (x2)), .val (VP.of (x3)), .val (VP.of (x4)), .val (VP.of (z1)), .val (VP.of (y6)), .val (VP.eq (.pointer (some ⟨p1, 0 + 1, none⟩))), .val (VP.of (x0.f_Tops)), .val (VP.of (x3)), .val (VP.of (m1)), .val (VP.of ({ f_Role := x3, f_Election := m1 : T_session_Top })), .val (VP.of (y7)), .val (VP.of ({ f_Sessions := y6, f_Tops := y7 : T_session_State })), .new (.var (default : T_session_State))] [false, false, false, false, false, false, false, false, false, false, false, false, false, false, false] (by kernel_rfl) rfl rfl rfl (fun ps1 => ⟨fun L' hL => HO.v (r_fa fd40_0 (look_t rfl)) rfl, fun L' hL => HO.v (r_load (i := 6) ((Lens.id T_session_State).comp le_T_session_State_Sessions) (r := x0.f_Sessions) ty37 (look_t rfl) (hL _ _ rfl rfl) rfl rfl) rfl, fun L' hL => HO.v (r_loadp ty3 (look_t rfl)) rfl, fun L' hL => HO.v (r_loadp ty3 (look_t rfl)) rfl, fun L' hL => HO.v (r_loadp ty47 (look_t rfl)) rfl, fun L' hL => HO.v ((r_build (b := { f_Controller := x2, f_Role := x3, f_Election := x4 : T_session_Session }) rfl bu138 zr138 (.cons le_T_session_Session_Controller rfl (look_t rfl) rfl (.cons le_T_session_Session_Role rfl (look_t rfl) rfl (.cons le_T_session_Session_Election rfl (look_t rfl) rfl (.nil))))).as (some_in hz1)) rfl, fun L' hL => HO.v (r_call en68 (C_session_replaced_session_Session hy6) ⟨look_t rfl, look_fn1 en69 (fun _ _ => C_session_Arbitrate_fn2), look_t rfl, trivial⟩) rfl, fun L' hL => HO.v (r_fa fd40_1 (look_t rfl)) rfl, fun L' hL => HO.v (r_load (i := 6) ((Lens.id T_session_State).comp le_T_session_State_Tops) (r := x0.f_Tops) ty38 (look_t rfl) (hL _ _ rfl rfl) rfl rfl) rfl, fun L' hL => HO.v (r_loadp ty3 (look_t rfl)) rfl, fun L' hL => HO.v (r_load (i := 0) (Lens.id T_api_Value) (r := m1) ty47 (look_t rfl) (hL _ _ rfl rfl) rfl rfl) rfl, fun L' hL => HO.v (r_build (b := { f_Role := x3, f_Election := m1 : T_session_Top }) rfl bu67 zr67 (.cons le_T_session_Top_Role rfl (look_t rfl) rfl (.cons le_T_session_Top_Election rfl (look_t rfl) rfl (.nil)))) rfl, fun L' hL => HO.v (r_call en70 (C_session_replaced_session_Top hy7) ⟨look_t rfl, look_fn1 en71 (fun _ _ => C_session_Arbitrate_fn3), look_t rfl, trivial⟩) rfl, fun L' hL => HO.v (r_build (b := { f_Sessions := y6, f_Tops := y7 : T_session_State }) rfl bu40 zr40 (.cons le_T_session_State_Sessions rfl (look_t rfl) rfl (.cons le_T_session_State_Tops rfl (look_t rfl) rfl (.nil)))) rfl, ao_alloc zr40, trivial⟩) fun ps1 => ?_
          refine Sq.store (i := 0) (Lens.id T_session_State) (v := ({ f_Sessions := y6, f_Tops := y7 : T_session_State } : T_session_State)) (b' := ({ f_Sessions := y6, f_Tops := y7 : T_session_State } : T_session_State)) ty40 (look_t rfl) (look_t rfl) rfl rfl rfl ?_
          refine Sq.nil ?_
          refine To.next ?_
          refine Wp.seq ?_
          refine Wp.draw mixed 5 [some 61, some 62, some 63, some 64, none] [[], [], [], [1, 2], [0]] [.val (VP.of ({ f_Sessions := y6, f_Tops := y7 : T_session_State })), .val (VP.of (m1)), .val (VP.of (x4)), .val (VP.of (decide (m1 = x4))), .sto 2 (.var (({ f_Sessions := y6, f_Tops := y7 : T_session_State }) : T_session_State))] [false, false, false, false, true] (by kernel_rfl) rfl rfl rfl (fun ps2 => ⟨fun L' hL => HO.v (r_load (i := 0) (Lens.id T_session_State) (r := ({ f_Sessions := y6, f_Tops := y7 : T_session_State })) ty40 (look_t rfl) (hL _ _ rfl (by kernel_rfl)) rfl rfl) rfl, fun L' hL => HO.v (r_load (i := 1) (Lens.id T_api_Value) (r := m1) ty47 (look_t rfl) (hL _ _ rfl (by kernel_rfl)) rfl rfl) rfl, fun L' hL => HO.v (r_loadp ty47 (look_t rfl)) rfl, fun L' hL => HO.v (r_eqA eqv47 rfl eqg47 rfl (look_t rfl) (look_t rfl)) rfl, ⟨_, _, rfl, fun L' hL => so_var (i := 2) (Lens.id T_session_State) (v := (({ f_Sessions := y6, f_Tops := y7 : T_session_State }) : T_session_State)) (b' := (({ f_Sessions := y6, f_Tops := y7 : T_session_State }) : T_session_State)) ty40 (look_t rfl) (look_t rfl) (hL _ _ rfl) rfl rfl⟩, trivial⟩) fun ps2 => ?_
          refine Sq.v (r_asg (look_t rfl)) rfl rfl rfl ?_
          refine Sq.v (r_asg (look_int 0)) rfl rfl rfl ?_
          refine Sq.nil ?_
          refine To.next ?_
          refine Wp.ret ?_
          replace h := some_in h
          subst h
          exact To.end3 rfl (rv_c (i := 2) ty40 rfl rfl) (rv_t rfl) (rv_t rfl)
        · have h := cond_t hc hm1
          refine Wp.reg ?_
          refine Sq.v (r_loadp ty47 (look_t rfl)) rfl rfl rfl ?_
          refine Sq.store (i := 0) (Lens.id T_api_Value) (v := (x4 : T_api_Value)) (b' := (x4 : T_api_Value)) ty47 (look_t rfl) (look_t rfl) rfl rfl rfl ?_
          refine Sq.nil ?_
          replace h := some_in h
          subst h
          exact To.meet 0 rfl (.same rfl (.same rfl (.same rfl (.same rfl (.same rfl (.same rfl (.same rfl (.same rfl (.same rfl (.same rfl (.same rfl (.same rfl (.same rfl (.same rfl (.same rfl (.same rfl (.same rfl (.same rfl (.same rfl .nil))))))))))))))))))) (hm ())
        · have h := cond_f hc hm1
          refine Wp.skip ?_
          replace h := some_in h
          subst h
          exact To.meet 0 rfl (.same rfl (.same rfl (.same rfl (.same rfl (.same rfl (.same rfl (.same rfl (.same rfl (.same rfl (.same rfl (.same rfl (.same rfl (.same rfl (.same rfl (.same rfl (.same rfl (.same rfl (.same rfl (.same rfl .nil))))))))))))))))))) (hm ())
end Go.Proofs.Ytodajdohokmjnaa
