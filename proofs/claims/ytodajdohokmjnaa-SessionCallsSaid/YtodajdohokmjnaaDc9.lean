/-
  Printed by the decompiler (dec.py) out of the seat's translation. Each function meets its functional program. Conditions: none.
-/
import Derived.Test.YtodajdohokmjnaaDc0
import Derived.Test.YtodajdohokmjnaaDc1
import Derived.Test.YtodajdohokmjnaaDc2
import Derived.Test.YtodajdohokmjnaaDc6
import Derived.Test.YtodajdohokmjnaaDc7
import Derived.Test.YtodajdohokmjnaaDc8
namespace Go.Proofs.Ytodajdohokmjnaa
open Go Gv
set_option linter.unusedVariables false
set_option linter.unusedSimpArgs false
set_option maxRecDepth 100000
set_option maxHeartbeats 2000000 in
theorem C_session_Leave {x0 : T_session_State} {x1 : Int}  {r : T_session_State × Int} (h : L_session_Leave x0 x1 = some r) : Meets Try.prog 15 [VP.of (x0), VP.of (x1)] (VP.tup [VP.of (r.1), VP.of (r.2)]) := by
  unfold L_session_Leave at h
  refine Meets.of Try.func15 rfl Try.ntmps15 rfl fun W A => ?_
  refine Wp.seq ?_
  refine Wp.reg ?_
  refine Sq.box (z := (x0 : T_session_State)) (look_t rfl) rfl fun p1 => ?_
  refine Sq.box (z := (x1 : Int)) (look_t rfl) rfl fun p2 => ?_
  refine Sq.alloc zr40 rfl fun p3 => ?_
  refine Sq.v (r_asg (look_int 0)) rfl rfl rfl ?_
  refine Sq.nil ?_
  refine To.next ?_
  refine Wp.seq ?_
  refine Wp.seq ?_
  refine Wp.reg ?_
  refine Sq.v (r_load (i := 1) (Lens.id Int) (r := x1) ty3 (look_t rfl) rfl rfl rfl) rfl rfl rfl ?_
  obtain ⟨y1, hy1, h⟩ := bind_some h
  refine Sq.v (r_call en55 (C_session_controls hy1) ⟨look_t rfl, trivial⟩) rfl rfl rfl ?_
  refine Sq.v (r_not (look_t rfl)) rfl rfl rfl ?_
  refine Sq.nil ?_
  refine To.next ?_
  refine Wp.cond (look_t rfl) (fun hc => ?_) (fun hc => ?_)
  · replace h := cond_t hc h
    refine Wp.seq ?_
    refine Wp.reg ?_
    refine Sq.v (r_build (b := (default : T_session_State)) rfl bu40 zr40 (.nil)) rfl rfl rfl ?_
    refine Sq.store (i := 0) (Lens.id T_session_State) (v := ((default : T_session_State) : T_session_State)) (b' := ((default : T_session_State) : T_session_State)) ty40 (look_t rfl) (look_t rfl) rfl rfl rfl ?_
    refine Sq.v (r_asg (look_int 4)) rfl rfl rfl ?_
    refine Sq.nil ?_
    refine To.next ?_
    refine Wp.ret ?_
    refine To.ret ?_
    replace h := some_in h
    subst h
    exact To.end2 rfl (rv_c (i := 0) ty40 rfl rfl) (rv_t rfl)
  · replace h := cond_f hc h
    refine Wp.skip ?_
    refine To.next ?_
    refine Wp.seq ?_
    refine Wp.seq ?_
    refine Wp.reg ?_
    refine Sq.v (r_load (i := 2) (Lens.id T_session_State) (r := x0) ty40 (look_t rfl) rfl rfl rfl) rfl rfl rfl ?_
    refine Sq.v (r_load (i := 1) (Lens.id Int) (r := x1) ty3 (look_t rfl) rfl rfl rfl) rfl rfl rfl ?_
    obtain ⟨y2, hy2, h⟩ := bind_some h
    refine Sq.v (r_call en56 (C_session_of hy2) ⟨look_t rfl, look_t rfl, trivial⟩) rfl rfl rfl ?_
    refine Sq.v (r_move (look_t rfl)) rfl rfl rfl ?_
    refine Sq.v (r_ext (look_t rfl) rfl) rfl rfl rfl ?_
    refine Sq.v (r_ext (look_t rfl) rfl) rfl rfl rfl ?_
    refine Sq.alloc zr138 rfl fun p4 => ?_
    refine Sq.store (i := 0) (Lens.id T_session_Session) (v := (y2.1 : T_session_Session)) (b' := (y2.1 : T_session_Session)) ty138 (look_t rfl) (look_t rfl) rfl rfl rfl ?_
    refine Sq.v (r_asg (look_t rfl)) rfl rfl rfl ?_
    refine Sq.nil ?_
    refine To.next ?_
    refine Wp.seq ?_
    refine Wp.reg ?_
    refine Sq.v (r_move (look_t rfl)) rfl rfl rfl ?_
    refine Sq.v (r_not (look_t rfl)) rfl rfl rfl ?_
    refine Sq.nil ?_
    refine To.next ?_
    refine Wp.cond (look_t rfl) (fun hc => ?_) (fun hc => ?_)
    · replace h := cond_t hc h
      refine Wp.seq ?_
      refine Wp.reg ?_
      refine Sq.v (r_build (b := (default : T_session_State)) rfl bu40 zr40 (.nil)) rfl rfl rfl ?_
      refine Sq.store (i := 1) (Lens.id T_session_State) (v := ((default : T_session_State) : T_session_State)) (b' := ((default : T_session_State) : T_session_State)) ty40 (look_t rfl) (look_t rfl) rfl rfl rfl ?_
      refine Sq.v (r_asg (look_int 25)) rfl rfl rfl ?_
      refine Sq.nil ?_
      refine To.next ?_
      refine Wp.ret ?_
      refine To.ret ?_
      replace h := some_in h
      subst h
      exact To.end2 rfl (rv_c (i := 1) ty40 rfl rfl) (rv_t rfl)
    · replace h := cond_f hc h
      refine Wp.skip ?_
      refine To.next ?_
      refine Wp.seq ?_
      refine Wp.reg ?_
      refine Sq.v (r_fa fd40_0 (look_t rfl)) rfl rfl rfl ?_
      refine Sq.v (r_load (i := 3) ((Lens.id T_session_State).comp le_T_session_State_Sessions) (r := x0.f_Sessions) ty37 (look_t rfl) rfl rfl rfl) rfl rfl rfl ?_
      obtain ⟨y3, hy3, h⟩ := bind_some h
      refine Sq.callO (Lin := []) (Lr := [⟨some p4, .var (y2.1 : T_session_Session)⟩, ⟨some p3, .var ((default : T_session_State) : T_session_State)⟩, ⟨some p2, .var (x1 : Int)⟩, ⟨some p1, .var (x0 : T_session_State)⟩]) en58 (Co_slices_Clone_session_Session hy3) ⟨look_t rfl, trivial⟩ rfl fun q1 => ?_
      refine Sq.share (α := Int) 3 3 rfl rfl ?_
      refine Sq.v (r_clo1 (F := (fun a0 => L_session_Leave_fn1 a0 x1)) (τs := [VP.ptr x1]) en59 ⟨look_t rfl, trivial⟩ (fun _ _ h => C_session_Leave_fn1 h)) rfl rfl rfl ?_
      refine Sq.bring 0 rfl ?_
      obtain ⟨y4, hy4, h⟩ := bind_some h
      refine Sq.callO (Lin := [⟨q1.1, .row 138 (y3 : List T_session_Session) q1.2⟩]) (Lr := [⟨some p4, .var (y2.1 : T_session_Session)⟩, ⟨some p3, .var ((default : T_session_State) : T_session_State)⟩, ⟨none, .dead⟩, ⟨some p1, .var (x0 : T_session_State)⟩]) en57 (Cp0_slices_DeleteFunc_session_Session hy4) ⟨look_t rfl, look_t rfl, trivial⟩ rfl fun q2 => ?_
      refine Sq.v (r_asg (look_t rfl)) rfl rfl rfl ?_
      refine Sq.nil ?_
      refine To.next ?_
      refine Wp.seq ?_
      refine Wp.reg ?_
      refine Sq.v (r_move (look_t rfl)) rfl rfl rfl ?_
      refine Sq.v (r_fa fd40_1 (look_t rfl)) rfl rfl rfl ?_
      refine Sq.v (r_load (i := 3) ((Lens.id T_session_State).comp le_T_session_State_Tops) (r := x0.f_Tops) ty38 (look_t rfl) rfl rfl rfl) rfl rfl rfl ?_
      obtain ⟨y5, hy5, h⟩ := bind_some h
      refine Sq.v (r_call en60 (C_slices_Clone_session_Top hy5) ⟨look_t rfl, trivial⟩) rfl rfl rfl ?_
      refine Sq.v (r_build (b := { f_Sessions := y4, f_Tops := y5 : T_session_State }) rfl bu40 zr40 (.cons le_T_session_State_Sessions rfl (look_t rfl) rfl (.cons le_T_session_State_Tops rfl (look_t rfl) rfl (.nil)))) rfl rfl rfl ?_
      refine Sq.store (i := 1) (Lens.id T_session_State) (v := ({ f_Sessions := y4, f_Tops := y5 : T_session_State } : T_session_State)) (b' := ({ f_Sessions := y4, f_Tops := y5 : T_session_State } : T_session_State)) ty40 (look_t rfl) (look_t rfl) rfl rfl rfl ?_
      refine Sq.v (r_asg (look_int 0)) rfl rfl rfl ?_
      refine Sq.nil ?_
      refine To.next ?_
      refine Wp.ret ?_
      replace h := some_in h
      subst h
      exact To.end2 rfl (rv_c (i := 1) ty40 rfl rfl) (rv_t rfl)
set_option maxHeartbeats 2000000 in
theorem C_session_replaced_session_Session {x0 : List T_session_Session} {x1 : T_session_Session → Option Int} {x2 : T_session_Session}  {r : (List T_session_Session)} (h : L_session_replaced_session_Session x0 x1 x2 = some r) : Meets Try.prog 68 [VP.of (x0), VP.fn1 Try.prog x1, VP.of (x2)] (VP.of (r)) := by
  unfold L_session_replaced_session_Session at h
  refine Meets.of Try.func68 rfl Try.ntmps68 rfl fun W A => ?_
  refine Wp.seq ?_
  refine Wp.reg ?_
  refine Sq.boxF (look_t rfl) one_fn1 rfl ?_
  refine Sq.box (z := (x2 : T_session_Session)) (look_t rfl) rfl fun p2 => ?_
  refine Sq.v (r_asg (look_nil (α := T_session_Session))) rfl rfl rfl ?_
  refine Sq.nil ?_
  refine To.next ?_
  refine Wp.seq ?_
  refine Wp.reg ?_
  refine Sq.v (r_move (look_t rfl)) rfl rfl rfl ?_
  obtain ⟨y1, hy1, h⟩ := bind_some h
  refine Sq.callO (Lin := []) (Lr := [⟨some p2, .var (x2 : T_session_Session)⟩]) en58 (Co_slices_Clone_session_Session hy1) ⟨look_t rfl, trivial⟩ rfl fun q1 => ?_
  refine Sq.share (α := T_session_Session) 1 5 rfl rfl ?_
  refine Sq.v (r_clo1 (F := (fun a0 => L_session_replaced_session_Session_fn1 a0 x1 x2)) (τs := [VP.pv (VP.fn1 Try.prog x1), VP.ptr x2]) en102 ⟨look_t rfl, look_t rfl, trivial⟩ (fun _ _ h => C_session_replaced_session_Session_fn1 h)) rfl rfl rfl ?_
  refine Sq.bring 0 rfl ?_
  obtain ⟨y2, hy2, h⟩ := bind_some h
  refine Sq.callO (Lin := [⟨q1.1, .row 138 (y1 : List T_session_Session) q1.2⟩]) (Lr := [⟨none, .dead⟩]) en57 (Cop0_slices_DeleteFunc_session_Session hy2) ⟨look_t rfl, look_t rfl, trivial⟩ rfl fun q2 => ?_
  refine Sq.v (r_asg (look_t rfl)) rfl rfl rfl ?_
  refine Sq.nil ?_
  refine To.next ?_
  refine Wp.seq ?_
  refine Wp.reg ?_
  refine Sq.v (r_move (look_t rfl)) rfl rfl rfl ?_
  refine Sq.v (r_clo1 (F := (fun a0 => L_session_replaced_session_Session_fn2 a0 x1 x2)) (τs := [VP.pv (VP.fn1 Try.prog x1), VP.ptr x2]) en103 ⟨look_t rfl, look_t rfl, trivial⟩ (fun _ _ h => C_session_replaced_session_Session_fn2 h)) rfl rfl rfl ?_
  obtain ⟨y3, hy3, h⟩ := bind_some h
  refine Sq.v (HR.lend (α := T_session_Session) 0 13 rfl rfl flat_int (r_call en96 (C_slices_IndexFunc_session_Session hy3) ⟨look_t rfl, look_t rfl, trivial⟩)) rfl rfl rfl ?_
  refine Sq.v (r_asg (look_t rfl)) rfl rfl rfl ?_
  refine Sq.nil ?_
  refine To.next ?_
  refine Wp.seq ?_
  refine Wp.seq ?_
  refine Wp.reg ?_
  refine Sq.v (r_move (look_t rfl)) rfl rfl rfl ?_
  refine Sq.v (r_lss (look_t rfl) (look_int 0)) rfl rfl rfl ?_
  refine Sq.nil ?_
  refine To.next ?_
  obtain ⟨m1, hm1, h⟩ := bind_some h
  refine Wp.condM (γ := Unit) (fun g1 => [(0, VP.of (x0)), (1, VP.fn1 Try.prog x1), (2, VP.of (x2)), (4, VP.pv (VP.fn1 Try.prog x1)), (5, VP.ptr x2), (6, VP.of ([] : List T_session_Session)), (7, VP.eq (slv q2.1 y2.length q2.2)), (8, VP.of (m1)), (17, VP.of (decide (y3 < 0)))]) (fun g1 => [⟨q2.1, .row 138 (y2 : List T_session_Session) q2.2⟩, ⟨none, .dead⟩]) (look_t rfl) (fun g1 => ?_) (fun hm hc => ?_) (fun hm hc => ?_)
  · clear hm1
    refine To.next ?_
    refine Wp.seq ?_
    refine Wp.reg ?_
    refine Sq.v (r_move (look_t rfl)) rfl rfl rfl ?_
    refine Sq.v (r_move (look_t rfl)) rfl rfl rfl ?_
    refine Sq.v (r_loadp ty138 (look_t rfl)) rfl rfl rfl ?_
    refine Sq.bslO (α := T_session_Session) (r := [x2]) Try.underlying37 ty138 zr138 rfl rfl (.cons (by simp) (look_t rfl) (.nil)) rfl fun key1 => ?_
    refine Sq.bring 0 rfl ?_
    refine Sq.bring 1 rfl ?_
    obtain ⟨y4, hy4, h⟩ := bind_some h
    refine Sq.callO (Lin := [⟨q2.1, .row 138 (y2 : List T_session_Session) q2.2⟩, ⟨key1, .row 138 ([x2] : List T_session_Session) 1⟩]) (Lr := [⟨none, .dead⟩]) en104 (Cop0_2_slices_Insert_session_Session hy4) ⟨look_t rfl, look_t rfl, look_t rfl, trivial⟩ rfl fun q3 => ?_
    refine Sq.v (r_asg (look_t rfl)) rfl rfl rfl ?_
    refine Sq.nil ?_
    refine To.next ?_
    refine Wp.ret ?_
    refine To.freezeL (α := T_session_Session) 0 [6, 24] ⟨rfl, rfl, trivial⟩ rfl ?_
    replace h := some_in h
    subst h
    exact To.end1 rfl (rv_t rfl)
  · have h := cond_t hc hm1
    refine Wp.reg ?_
    refine Sq.v (r_move (look_t rfl)) rfl rfl rfl ?_
    refine Sq.v (r_lenO (i := 0) Try.underlying37 (look_t rfl) rfl rfl) rfl rfl rfl ?_
    refine Sq.v (r_asg (look_t rfl)) rfl rfl rfl ?_
    refine Sq.nil ?_
    replace h := some_in h
    subst h
    exact To.meet 0 rfl (.same rfl (.same rfl (.same rfl (.same rfl (.same rfl (.same rfl (.same rfl (.same rfl (.same rfl .nil))))))))) (hm ())
  · have h := cond_f hc hm1
    refine Wp.skip ?_
    replace h := some_in h
    subst h
    exact To.meet 0 rfl (.same rfl (.same rfl (.same rfl (.same rfl (.same rfl (.same rfl (.same rfl (.same rfl (.same rfl .nil))))))))) (hm ())
set_option maxHeartbeats 2000000 in
theorem C_session_replaced_session_Top {x0 : List T_session_Top} {x1 : T_session_Top → Option Int} {x2 : T_session_Top}  {r : (List T_session_Top)} (h : L_session_replaced_session_Top x0 x1 x2 = some r) : Meets Try.prog 70 [VP.of (x0), VP.fn1 Try.prog x1, VP.of (x2)] (VP.of (r)) := by
  unfold L_session_replaced_session_Top at h
  refine Meets.of Try.func70 rfl Try.ntmps70 rfl fun W A => ?_
  refine Wp.seq ?_
  refine Wp.reg ?_
  refine Sq.boxF (look_t rfl) one_fn1 rfl ?_
  refine Sq.box (z := (x2 : T_session_Top)) (look_t rfl) rfl fun p2 => ?_
  refine Sq.v (r_asg (look_nil (α := T_session_Top))) rfl rfl rfl ?_
  refine Sq.nil ?_
  refine To.next ?_
  refine Wp.seq ?_
  refine Wp.reg ?_
  refine Sq.v (r_move (look_t rfl)) rfl rfl rfl ?_
  obtain ⟨y1, hy1, h⟩ := bind_some h
  refine Sq.callO (Lin := []) (Lr := [⟨some p2, .var (x2 : T_session_Top)⟩]) en60 (Co_slices_Clone_session_Top hy1) ⟨look_t rfl, trivial⟩ rfl fun q1 => ?_
  refine Sq.share (α := T_session_Top) 1 5 rfl rfl ?_
  refine Sq.v (r_clo1 (F := (fun a0 => L_session_replaced_session_Top_fn1 a0 x1 x2)) (τs := [VP.pv (VP.fn1 Try.prog x1), VP.ptr x2]) en106 ⟨look_t rfl, look_t rfl, trivial⟩ (fun _ _ h => C_session_replaced_session_Top_fn1 h)) rfl rfl rfl ?_
  refine Sq.bring 0 rfl ?_
  obtain ⟨y2, hy2, h⟩ := bind_some h
  refine Sq.callO (Lin := [⟨q1.1, .row 67 (y1 : List T_session_Top) q1.2⟩]) (Lr := [⟨none, .dead⟩]) en105 (Cop0_slices_DeleteFunc_session_Top hy2) ⟨look_t rfl, look_t rfl, trivial⟩ rfl fun q2 => ?_
  refine Sq.v (r_asg (look_t rfl)) rfl rfl rfl ?_
  refine Sq.nil ?_
  refine To.next ?_
  refine Wp.seq ?_
  refine Wp.reg ?_
  refine Sq.v (r_move (look_t rfl)) rfl rfl rfl ?_
  refine Sq.v (r_clo1 (F := (fun a0 => L_session_replaced_session_Top_fn2 a0 x1 x2)) (τs := [VP.pv (VP.fn1 Try.prog x1), VP.ptr x2]) en107 ⟨look_t rfl, look_t rfl, trivial⟩ (fun _ _ h => C_session_replaced_session_Top_fn2 h)) rfl rfl rfl ?_
  obtain ⟨y3, hy3, h⟩ := bind_some h
  refine Sq.v (HR.lend (α := T_session_Top) 0 13 rfl rfl flat_int (r_call en100 (C_slices_IndexFunc_session_Top hy3) ⟨look_t rfl, look_t rfl, trivial⟩)) rfl rfl rfl ?_
  refine Sq.v (r_asg (look_t rfl)) rfl rfl rfl ?_
  refine Sq.nil ?_
  refine To.next ?_
  refine Wp.seq ?_
  refine Wp.seq ?_
  refine Wp.reg ?_
  refine Sq.v (r_move (look_t rfl)) rfl rfl rfl ?_
  refine Sq.v (r_lss (look_t rfl) (look_int 0)) rfl rfl rfl ?_
  refine Sq.nil ?_
  refine To.next ?_
  obtain ⟨m1, hm1, h⟩ := bind_some h
  refine Wp.condM (γ := Unit) (fun g1 => [(0, VP.of (x0)), (1, VP.fn1 Try.prog x1), (2, VP.of (x2)), (4, VP.pv (VP.fn1 Try.prog x1)), (5, VP.ptr x2), (6, VP.of ([] : List T_session_Top)), (7, VP.eq (slv q2.1 y2.length q2.2)), (8, VP.of (m1)), (17, VP.of (decide (y3 < 0)))]) (fun g1 => [⟨q2.1, .row 67 (y2 : List T_session_Top) q2.2⟩, ⟨none, .dead⟩]) (look_t rfl) (fun g1 => ?_) (fun hm hc => ?_) (fun hm hc => ?_)
  · clear hm1
    refine To.next ?_
    refine Wp.seq ?_
    refine Wp.reg ?_
    refine Sq.v (r_move (look_t rfl)) rfl rfl rfl ?_
    refine Sq.v (r_move (look_t rfl)) rfl rfl rfl ?_
    refine Sq.v (r_loadp ty67 (look_t rfl)) rfl rfl rfl ?_
    refine Sq.bslO (α := T_session_Top) (r := [x2]) Try.underlying38 ty67 zr67 rfl rfl (.cons (by simp) (look_t rfl) (.nil)) rfl fun key1 => ?_
    refine Sq.bring 0 rfl ?_
    refine Sq.bring 1 rfl ?_
    obtain ⟨y4, hy4, h⟩ := bind_some h
    refine Sq.callO (Lin := [⟨q2.1, .row 67 (y2 : List T_session_Top) q2.2⟩, ⟨key1, .row 67 ([x2] : List T_session_Top) 1⟩]) (Lr := [⟨none, .dead⟩]) en108 (Cop0_2_slices_Insert_session_Top hy4) ⟨look_t rfl, look_t rfl, look_t rfl, trivial⟩ rfl fun q3 => ?_
    refine Sq.v (r_asg (look_t rfl)) rfl rfl rfl ?_
    refine Sq.nil ?_
    refine To.next ?_
    refine Wp.ret ?_
    refine To.freezeL (α := T_session_Top) 0 [6, 24] ⟨rfl, rfl, trivial⟩ rfl ?_
    replace h := some_in h
    subst h
    exact To.end1 rfl (rv_t rfl)
  · have h := cond_t hc hm1
    refine Wp.reg ?_
    refine Sq.v (r_move (look_t rfl)) rfl rfl rfl ?_
    refine Sq.v (r_lenO (i := 0) Try.underlying38 (look_t rfl) rfl rfl) rfl rfl rfl ?_
    refine Sq.v (r_asg (look_t rfl)) rfl rfl rfl ?_
    refine Sq.nil ?_
    replace h := some_in h
    subst h
    exact To.meet 0 rfl (.same rfl (.same rfl (.same rfl (.same rfl (.same rfl (.same rfl (.same rfl (.same rfl (.same rfl .nil))))))))) (hm ())
  · have h := cond_f hc hm1
    refine Wp.skip ?_
    replace h := some_in h
    subst h
    exact To.meet 0 rfl (.same rfl (.same rfl (.same rfl (.same rfl (.same rfl (.same rfl (.same rfl (.same rfl (.same rfl .nil))))))))) (hm ())
end Go.Proofs.Ytodajdohokmjnaa
