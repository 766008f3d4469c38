/-
  Printed by the decompiler (dec.py) out of the seat's translation. Each function meets its functional program. Conditions: none.
-/
import Derived.Test.YtodajdohokmjnaaDc0
import Derived.Test.YtodajdohokmjnaaDc6
import Derived.Test.YtodajdohokmjnaaDc7
import Derived.Test.YtodajdohokmjnaaDc9
import Derived.Test.YtodajdohokmjnaaDc10
import Derived.Test.YtodajdohokmjnaaDc11
import Derived.Test.YtodajdohokmjnaaDc15
import Derived.Test.YtodajdohokmjnaaDc16
namespace Go.Proofs.Ytodajdohokmjnaa
open Go Gv
set_option linter.unusedVariables false
set_option linter.unusedSimpArgs false
set_option maxRecDepth 100000
set_option maxHeartbeats 2000000 in
theorem C_law20_begun   {r : Bool} (h : L_law20_begun  = some r) : Meets Try.prog 20 [] (VP.of (r)) := by
  unfold L_law20_begun at h
  refine Meets.of Try.func20 rfl Try.ntmps20 rfl fun W A => ?_
  refine Wp.seq ?_
  refine Wp.reg ?_
  refine Sq.v (r_asg (look_bool false)) rfl rfl rfl ?_
  refine Sq.nil ?_
  refine To.next ?_
  refine Wp.seq ?_
  refine Wp.reg ?_
  obtain ⟨y1, hy1, h⟩ := bind_some h
  refine Sq.callO (Lin := []) (Lr := []) en12 (C_mcase_New hy1) ⟨look_nil, look_int 0, trivial⟩ rfl fun q1 => ?_
  refine Sq.bring 0 rfl ?_
  obtain ⟨y2, hy2, h⟩ := bind_some h
  refine Sq.callO (Lin := [⟨some q1, .var (y1 : T_mcase_Codes)⟩]) (Lr := []) en13 (C_mcase_Codes_Schema hy2) ⟨look_t rfl, trivial⟩ rfl fun q2 => ?_
  refine Sq.alloc zr33 rfl fun p1 => ?_
  refine Sq.store (i := 0) (Lens.id T_api_Schema) (v := (y2.1 : T_api_Schema)) (b' := (y2.1 : T_api_Schema)) ty33 (look_t rfl) (look_t rfl) rfl rfl rfl ?_
  refine Sq.nil ?_
  refine To.next ?_
  refine Wp.seq ?_
  refine Wp.reg ?_
  refine Sq.v (r_build (b := (default : T_session_State)) rfl bu40 zr40 (.nil)) rfl rfl rfl ?_
  refine Sq.v (r_load (i := 0) (Lens.id T_api_Schema) (r := y2.1) ty33 (look_t rfl) rfl rfl rfl) rfl rfl rfl ?_
  refine Sq.v (r_build (b := ({ (default : T_api_Value) with f_Lo := 5#64 } : T_api_Value)) rfl bu47 zr47 (.cons le_T_api_Value_Lo rfl (look_u64 5 rfl) rfl (.nil))) rfl rfl rfl ?_
  obtain ⟨y3, hy3, h⟩ := bind_some h
  refine Sq.v (r_call en17 (C_session_Arbitrate hy3) ⟨look_t rfl, look_t rfl, look_int 0, look_int 1, look_t rfl, trivial⟩) rfl rfl rfl ?_
  refine Sq.v (r_move (look_t rfl)) rfl rfl rfl ?_
  refine Sq.v (r_ext (look_t rfl) rfl) rfl rfl rfl ?_
  refine Sq.v (r_ext (look_t rfl) rfl) rfl rfl rfl ?_
  refine Sq.v (r_ext (look_t rfl) rfl) rfl rfl rfl ?_
  refine Sq.alloc zr40 rfl fun p2 => ?_
  refine Sq.store (i := 0) (Lens.id T_session_State) (v := (y3.1 : T_session_State)) (b' := (y3.1 : T_session_State)) ty40 (look_t rfl) (look_t rfl) rfl rfl rfl ?_
  refine Sq.v (r_asg (look_t rfl)) rfl rfl rfl ?_
  refine Sq.v (r_asg (look_t rfl)) rfl rfl rfl ?_
  refine Sq.nil ?_
  refine To.next ?_
  refine Wp.seq ?_
  refine Wp.reg ?_
  refine Sq.v (r_load (i := 0) (Lens.id T_session_State) (r := y3.1) ty40 (look_t rfl) rfl rfl rfl) rfl rfl rfl ?_
  refine Sq.v (r_load (i := 1) (Lens.id T_api_Schema) (r := y2.1) ty33 (look_t rfl) rfl rfl rfl) rfl rfl rfl ?_
  refine Sq.v (r_build (b := ({ (default : T_api_Value) with f_Lo := 3#64 } : T_api_Value)) rfl bu47 zr47 (.cons le_T_api_Value_Lo rfl (look_u64 3 rfl) rfl (.nil))) rfl rfl rfl ?_
  obtain ⟨y4, hy4, h⟩ := bind_some h
  refine Sq.v (r_call en17 (C_session_Arbitrate hy4) ⟨look_t rfl, look_t rfl, look_int 1, look_int 1, look_t rfl, trivial⟩) rfl rfl rfl ?_
  refine Sq.v (r_move (look_t rfl)) rfl rfl rfl ?_
  refine Sq.v (r_ext (look_t rfl) rfl) rfl rfl rfl ?_
  refine Sq.v (r_ext (look_t rfl) rfl) rfl rfl rfl ?_
  refine Sq.v (r_ext (look_t rfl) rfl) rfl rfl rfl ?_
  refine Sq.store (i := 0) (Lens.id T_session_State) (v := (y4.1 : T_session_State)) (b' := (y4.1 : T_session_State)) ty40 (look_t rfl) (look_t rfl) rfl rfl rfl ?_
  refine Sq.v (r_asg (look_t rfl)) rfl rfl rfl ?_
  refine Sq.v (r_asg (look_t rfl)) rfl rfl rfl ?_
  refine Sq.nil ?_
  refine To.next ?_
  refine Wp.seq ?_
  refine Wp.reg ?_
  refine Sq.v (r_load (i := 0) (Lens.id T_session_State) (r := y4.1) ty40 (look_t rfl) rfl rfl rfl) rfl rfl rfl ?_
  obtain ⟨y5, hy5, h⟩ := bind_some h
  refine Sq.v (r_call en15 (C_session_Leave hy5) ⟨look_t rfl, look_int 0, trivial⟩) rfl rfl rfl ?_
  refine Sq.v (r_move (look_t rfl)) rfl rfl rfl ?_
  refine Sq.v (r_ext (look_t rfl) rfl) rfl rfl rfl ?_
  refine Sq.v (r_ext (look_t rfl) rfl) rfl rfl rfl ?_
  refine Sq.store (i := 0) (Lens.id T_session_State) (v := (y5.1 : T_session_State)) (b' := (y5.1 : T_session_State)) ty40 (look_t rfl) (look_t rfl) rfl rfl rfl ?_
  refine Sq.nil ?_
  refine To.next ?_
  refine Wp.seq ?_
  refine Wp.reg ?_
  refine Sq.v (r_load (i := 0) (Lens.id T_session_State) (r := y5.1) ty40 (look_t rfl) rfl rfl rfl) rfl rfl rfl ?_
  obtain ⟨y6, hy6, h⟩ := bind_some h
  refine Sq.v (r_call en23 (C_session_Primary hy6) ⟨look_t rfl, look_int 1, trivial⟩) rfl rfl rfl ?_
  refine Sq.v (r_move (look_t rfl)) rfl rfl rfl ?_
  refine Sq.v (r_ext (look_t rfl) rfl) rfl rfl rfl ?_
  refine Sq.v (r_ext (look_t rfl) rfl) rfl rfl rfl ?_
  refine Sq.v (r_asg (look_t rfl)) rfl rfl rfl ?_
  refine Sq.v (r_asg (look_t rfl)) rfl rfl rfl ?_
  refine Sq.nil ?_
  refine To.next ?_
  refine Wp.seq ?_
  refine Wp.reg ?_
  refine Sq.v (r_load (i := 0) (Lens.id T_session_State) (r := y5.1) ty40 (look_t rfl) rfl rfl rfl) rfl rfl rfl ?_
  refine Sq.v (r_load (i := 1) (Lens.id T_api_Schema) (r := y2.1) ty33 (look_t rfl) rfl rfl rfl) rfl rfl rfl ?_
  refine Sq.v (r_build (b := ({ (default : T_api_Value) with f_Lo := 5#64 } : T_api_Value)) rfl bu47 zr47 (.cons le_T_api_Value_Lo rfl (look_u64 5 rfl) rfl (.nil))) rfl rfl rfl ?_
  obtain ⟨y7, hy7, h⟩ := bind_some h
  refine Sq.v (r_call en17 (C_session_Arbitrate hy7) ⟨look_t rfl, look_t rfl, look_int 1, look_int 1, look_t rfl, trivial⟩) rfl rfl rfl ?_
  refine Sq.v (r_move (look_t rfl)) rfl rfl rfl ?_
  refine Sq.v (r_ext (look_t rfl) rfl) rfl rfl rfl ?_
  refine Sq.v (r_ext (look_t rfl) rfl) rfl rfl rfl ?_
  refine Sq.v (r_ext (look_t rfl) rfl) rfl rfl rfl ?_
  refine Sq.alloc zr40 rfl fun p3 => ?_
  refine Sq.store (i := 0) (Lens.id T_session_State) (v := (y7.1 : T_session_State)) (b' := (y7.1 : T_session_State)) ty40 (look_t rfl) (look_t rfl) rfl rfl rfl ?_
  refine Sq.v (r_asg (look_t rfl)) rfl rfl rfl ?_
  refine Sq.v (r_asg (look_t rfl)) rfl rfl rfl ?_
  refine Sq.nil ?_
  refine To.next ?_
  refine Wp.seq ?_
  refine Wp.reg ?_
  refine Sq.v (r_move (look_t rfl)) rfl rfl rfl ?_
  refine Sq.v (r_move (look_t rfl)) rfl rfl rfl ?_
  refine Sq.g (fun hb => r_move (look_t rfl)) rfl rfl rfl rfl rfl ?_
  refine Sq.g (fun hb => r_not (look_tc rfl hb)) rfl rfl rfl rfl rfl ?_
  refine Sq.v (r_and (look_t rfl) (look_t rfl) (fun h => h)) rfl rfl rfl ?_
  refine Sq.v (r_move (look_t rfl)) rfl rfl rfl ?_
  refine Sq.g (fun hb => r_move (look_t rfl)) rfl rfl rfl rfl rfl ?_
  refine Sq.g (fun hb => r_not (look_tc rfl hb)) rfl rfl rfl rfl rfl ?_
  refine Sq.v (r_and (look_t rfl) (look_t rfl) (fun h => h)) rfl rfl rfl ?_
  refine Sq.v (r_move (look_t rfl)) rfl rfl rfl ?_
  refine Sq.g (fun hb => r_move (look_t rfl)) rfl rfl rfl rfl rfl ?_
  refine Sq.v (r_and (look_t rfl) (look_t rfl) (fun h => h)) rfl rfl rfl ?_
  refine Sq.v (r_move (look_t rfl)) rfl rfl rfl ?_
  refine Sq.g (fun hb => r_move (look_t rfl)) rfl rfl rfl rfl rfl ?_
  refine Sq.g (fun hb => r_eql (look_tc rfl hb) (look_int 0)) rfl rfl rfl rfl rfl ?_
  refine Sq.v (r_and (look_t rfl) (look_t rfl) (fun h => h)) rfl rfl rfl ?_
  refine Sq.v (r_asg (look_t rfl)) rfl rfl rfl ?_
  refine Sq.nil ?_
  refine To.next ?_
  refine Wp.ret ?_
  replace h := some_in h
  subst h
  exact To.end1 rfl (rv_t rfl)
set_option maxHeartbeats 2000000 in
theorem C_law20_SessionCalls {x0 : List (BitVec 8)} {x1 : List T_law20_Op}  {r : Bool} (h : L_law20_SessionCalls x0 x1 = some r) : Meets Try.prog 3 [VP.of (x0), VP.of (x1)] (VP.of (r)) := by
  unfold L_law20_SessionCalls at h
  refine Meets.of Try.func3 rfl Try.ntmps3 rfl fun W A => ?_
  refine Wp.seq ?_
  refine Wp.reg ?_
  refine Sq.v (r_asg (look_bool false)) rfl rfl rfl ?_
  refine Sq.nil ?_
  refine To.next ?_
  refine Wp.seq ?_
  refine Wp.reg ?_
  refine Sq.v (r_move (look_t rfl)) rfl rfl rfl ?_
  obtain ⟨y1, hy1, h⟩ := bind_some h
  refine Sq.callO (Lin := []) (Lr := []) en12 (C_mcase_New hy1) ⟨look_t rfl, look_int 120, trivial⟩ rfl fun q1 => ?_
  refine Sq.bring 0 rfl ?_
  obtain ⟨y2, hy2, h⟩ := bind_some h
  refine Sq.callO (Lin := [⟨some q1, .var (y1 : T_mcase_Codes)⟩]) (Lr := []) en13 (C_mcase_Codes_Schema hy2) ⟨look_t rfl, trivial⟩ rfl fun q2 => ?_
  refine Sq.alloc zr33 rfl fun p1 => ?_
  refine Sq.store (i := 0) (Lens.id T_api_Schema) (v := (y2.1 : T_api_Schema)) (b' := (y2.1 : T_api_Schema)) ty33 (look_t rfl) (look_t rfl) rfl rfl rfl ?_
  refine Sq.nil ?_
  refine To.next ?_
  refine Wp.seq ?_
  refine Wp.reg ?_
  refine Sq.alloc zr40 rfl fun p2 => ?_
  refine Sq.nil ?_
  refine To.next ?_
  refine Wp.seq ?_
  refine Wp.reg ?_
  refine Sq.alloc zr44 rfl fun p3 => ?_
  refine Sq.nil ?_
  refine To.next ?_
  refine Wp.seq ?_
  refine Wp.seq ?_
  refine Wp.reg ?_
  refine Sq.v (r_move (look_t rfl)) rfl rfl rfl ?_
  refine Sq.v (r_move (look_t rfl)) rfl rfl rfl ?_
  refine Sq.v (r_len Try.underlying23 (look_t rfl)) rfl rfl rfl ?_
  refine Sq.v (r_min (look_t rfl) (look_int 24)) rfl rfl rfl ?_
  obtain ⟨y3, hy3, h⟩ := bind_some h
  refine Sq.v (r_slice Try.underlying23 ty49 (look_t rfl) .none (.some (look_t rfl)) hy3) rfl rfl rfl ?_
  refine Sq.v (r_len Try.underlying23 (look_t rfl)) rfl rfl rfl ?_
  refine Sq.v (r_move (look_int 0)) rfl rfl rfl ?_
  refine Sq.nil ?_
  refine To.next ?_
  refine Wp.block ?_
  obtain ⟨e1, hl, h⟩ := bind_some h
  refine Wp.loopG (σ := Int × T_ref20_State × T_session_State) (ε := (Int × Bool × T_ref20_State × T_session_State) ⊕ (Bool × Bool × Int × Int × Int × Bool × Bool × Bool × T_ref20_State × T_session_State)) (γ := Unit) (δ := Unit) hl (fun s1 g1 => [(0, VP.of (x0)), (1, VP.of (x1)), (4, VP.of (false)), (5, VP.eq (.pointer (some ⟨p1, 0, none⟩))), (6, VP.eq (.pointer (some ⟨p2, 0, none⟩))), (7, VP.eq (.pointer (some ⟨p3, 0, none⟩))), (23, VP.of (y3)), (24, VP.of (y3.length : Int)), (25, VP.of (s1.1))]) (fun s1 g1 => [⟨some p3, .var (s1.2.1 : T_ref20_State)⟩, ⟨some p2, .var (s1.2.2 : T_session_State)⟩, ⟨some p1, .var (y2.1 : T_api_Schema)⟩, ⟨some q1, .var (y2.2 : T_mcase_Codes)⟩]) (fun q3 => Sum.elim (fun q3 => Exit.exit 0) (fun q3 => Exit.ret) q3) (fun q3 g1 => Sum.elim (fun q3 => [(0, VP.of (x0)), (1, VP.of (x1)), (4, VP.of (false)), (5, VP.eq (.pointer (some ⟨p1, 0, none⟩))), (6, VP.eq (.pointer (some ⟨p2, 0, none⟩))), (7, VP.eq (.pointer (some ⟨p3, 0, none⟩))), (23, VP.of (y3)), (24, VP.of (y3.length : Int)), (25, VP.of (q3.1)), (26, VP.of (q3.2.1))]) (fun q3 => [(0, VP.of (x0)), (1, VP.of (x1)), (4, VP.of (false)), (5, VP.eq (.pointer (some ⟨p1, 0, none⟩))), (6, VP.eq (.pointer (some ⟨p2, 0, none⟩))), (7, VP.eq (.pointer (some ⟨p3, 0, none⟩))), (12, VP.of (q3.1)), (13, VP.of (q3.2.1)), (14, VP.of (q3.2.2.1)), (15, VP.of (q3.2.2.2.1)), (23, VP.of (y3)), (24, VP.of (y3.length : Int)), (25, VP.of (q3.2.2.2.2.1)), (26, VP.of (q3.2.2.2.2.2.1)), (34, VP.of (q3.2.2.2.2.2.2.1)), (88, VP.of (q3.2.2.2.2.2.2.2.1))]) q3) (fun q3 g1 => Sum.elim (fun q3 => [⟨some p3, .var (q3.2.2.1 : T_ref20_State)⟩, ⟨some p2, .var (q3.2.2.2 : T_session_State)⟩, ⟨some p1, .var (y2.1 : T_api_Schema)⟩, ⟨some q1, .var (y2.2 : T_mcase_Codes)⟩]) (fun q3 => [⟨some p3, .var (q3.2.2.2.2.2.2.2.2.1 : T_ref20_State)⟩, ⟨some p2, .var (q3.2.2.2.2.2.2.2.2.2 : T_session_State)⟩, ⟨some p1, .var (y2.1 : T_api_Schema)⟩, ⟨some q1, .var (y2.2 : T_mcase_Codes)⟩]) q3) () rfl (.same rfl (.same rfl (.same rfl (.same rfl (.same rfl (.same rfl (.same rfl (.same rfl (.same rfl .nil))))))))) (fun s1 r h g1 => ?_) (fun g1 => ?_)
  · clear hl
    refine Wp.seq ?_
    refine Wp.reg ?_
    refine Sq.v (r_lss (look_t rfl) (look_t rfl)) rfl rfl rfl ?_
    refine Sq.nil ?_
    refine To.next ?_
    refine Wp.seq ?_
    refine Wp.cond (look_t rfl) (fun hc => ?_) (fun hc => ?_)
    · replace h := cond_t hc h
      refine Wp.skip ?_
      refine To.next ?_
      refine Wp.seq ?_
      refine Wp.block ?_
      refine Wp.seq ?_
      refine Wp.reg ?_
      obtain ⟨k1, hk1, h⟩ := bind_some h
      refine Sq.v (r_ias (k := k1) Try.underlying23 ty49 (look_t rfl) (look_t rfl) (idx_some hk1)) rfl rfl rfl ?_
      refine Sq.v (r_loadp ty49 (look_t rfl)) rfl rfl rfl ?_
      refine Sq.alloc zr49 rfl fun p4 => ?_
      refine Sq.store (i := 0) (Lens.id T_law20_Op) (v := (lget y3 k1 : T_law20_Op)) (b' := (lget y3 k1 : T_law20_Op)) ty49 (look_t rfl) (look_t rfl) rfl rfl rfl ?_
      refine Sq.nil ?_
      refine To.next ?_
      refine Wp.seq ?_
      refine Wp.reg ?_
      refine Sq.v (r_load (i := 0) (Lens.id T_law20_Op) (r := (lget y3 k1)) ty49 (look_t rfl) rfl rfl rfl) rfl rfl rfl ?_
      obtain ⟨y4, hy4, h⟩ := bind_some h
      refine Sq.v (r_call en14 (C_law20_Op_near hy4) ⟨look_t rfl, trivial⟩) rfl rfl rfl ?_
      refine Sq.store (i := 0) (Lens.id T_law20_Op) (v := (y4 : T_law20_Op)) (b' := (y4 : T_law20_Op)) ty49 (look_t rfl) (look_t rfl) rfl rfl rfl ?_
      refine Sq.nil ?_
      refine To.next ?_
      refine Wp.seq ?_
      refine Wp.reg ?_
      refine Sq.alloc zr40 rfl fun p5 => ?_
      refine Sq.nil ?_
      refine To.next ?_
      refine Wp.seq ?_
      refine Wp.reg ?_
      refine Sq.alloc zr44 rfl fun p6 => ?_
      refine Sq.nil ?_
      refine To.next ?_
      refine Wp.seq ?_
      refine Wp.reg ?_
      refine Sq.v (r_asg (look_bool false)) rfl rfl rfl ?_
      refine Sq.v (r_asg (look_bool false)) rfl rfl rfl ?_
      refine Sq.nil ?_
      refine To.next ?_
      refine Wp.seq ?_
      refine Wp.reg ?_
      refine Sq.v (r_asg (look_int 0)) rfl rfl rfl ?_
      refine Sq.v (r_asg (look_int 0)) rfl rfl rfl ?_
      refine Sq.nil ?_
      refine To.next ?_
      refine Wp.seq ?_
      refine Wp.seq ?_
      refine Wp.reg ?_
      refine Sq.v (r_fa fd49_0 (look_t rfl)) rfl rfl rfl ?_
      refine Sq.v (r_load (i := 2) ((Lens.id T_law20_Op).comp le_T_law20_Op_Kind) (r := y4.f_Kind) ty5 (look_t rfl) rfl rfl rfl) rfl rfl rfl ?_
      obtain ⟨y5, hy5, h⟩ := bind_some h
      refine Sq.v (r_rem8 (look_t rfl) (look_u8 4 rfl) (uremM_some hy5)) rfl rfl rfl ?_
      refine Sq.v (r_eql8 (look_t rfl) (look_u8 0 rfl)) rfl rfl rfl ?_
      refine Sq.nil ?_
      refine To.next ?_
      obtain ⟨m1, hm1, h⟩ := bind_some h
      refine Wp.condM (γ := Unit) (fun g2 => [(0, VP.of (x0)), (1, VP.of (x1)), (4, VP.of (false)), (5, VP.eq (.pointer (some ⟨p1, 0, none⟩))), (6, VP.eq (.pointer (some ⟨p2, 0, none⟩))), (7, VP.eq (.pointer (some ⟨p3, 0, none⟩))), (9, VP.eq (.pointer (some ⟨p4, 0, none⟩))), (10, VP.eq (.pointer (some ⟨p5, 0, none⟩))), (11, VP.eq (.pointer (some ⟨p6, 0, none⟩))), (12, VP.of (m1.1)), (13, VP.of (m1.2.1)), (14, VP.of (m1.2.2.1)), (15, VP.of (m1.2.2.2.1)), (23, VP.of (y3)), (24, VP.of (y3.length : Int)), (25, VP.of (s1.1)), (26, VP.of (decide (s1.1 < (y3.length : Int)))), (34, VP.of (y5 == (0#8)))]) (fun g2 => [⟨some p6, .var (m1.2.2.2.2.1 : T_ref20_State)⟩, ⟨some p5, .var (m1.2.2.2.2.2 : T_session_State)⟩, ⟨some p4, .var (y4 : T_law20_Op)⟩, ⟨some p3, .var (s1.2.1 : T_ref20_State)⟩, ⟨some p2, .var (s1.2.2 : T_session_State)⟩, ⟨some p1, .var (y2.1 : T_api_Schema)⟩, ⟨some q1, .var (y2.2 : T_mcase_Codes)⟩]) (look_t rfl) (fun g2 => ?_) (fun hm hc => ?_) (fun hm hc => ?_)
      · clear hm1
        refine To.next ?_
        refine Wp.seq ?_
        refine Wp.seq ?_
        refine Wp.reg ?_
        refine Sq.v (r_move (look_t rfl)) rfl rfl rfl ?_
        refine Sq.v (r_move (look_t rfl)) rfl rfl rfl ?_
        refine Sq.v (r_neq (look_t rfl) (look_t rfl)) rfl rfl rfl ?_
        refine Sq.v (r_move (look_t rfl)) rfl rfl rfl ?_
        refine Sq.g (fun hb => r_move (look_t rfl)) rfl rfl rfl rfl rfl ?_
        refine Sq.g (fun hb => r_move (look_t rfl)) rfl rfl rfl rfl rfl ?_
        refine Sq.g (fun hb => r_bne Try.underlying4 (look_tc rfl hb) (look_tc rfl hb)) rfl rfl rfl rfl rfl ?_
        refine Sq.v (r_or (look_t rfl) (look_t rfl) (fun h => h)) rfl rfl rfl ?_
        refine Sq.v (r_move (look_t rfl)) rfl rfl rfl ?_
        refine Sq.g (fun hb => r_load (i := 1) (Lens.id T_session_State) (r := m1.2.2.2.2.2) ty40 (look_t rfl) rfl rfl rfl) rfl rfl rfl rfl rfl ?_
        refine Sq.g (fun hb => r_load (i := 0) (Lens.id T_ref20_State) (r := m1.2.2.2.2.1) ty44 (look_t rfl) rfl rfl rfl) rfl rfl rfl rfl rfl ?_
        obtain ⟨y6, hy6, h⟩ := bind_some h
        refine Sq.g (fun hb => r_call en19 (C_law20_same (condM_some hy6 hb)) ⟨look_tc rfl hb, look_tc rfl hb, trivial⟩) rfl rfl rfl rfl rfl ?_
        refine Sq.g (fun hb => r_not (look_tc rfl hb)) rfl rfl rfl rfl rfl ?_
        refine Sq.v (r_or (look_t rfl) (look_t rfl) (fun h => h)) rfl rfl rfl ?_
        refine Sq.nil ?_
        refine To.next ?_
        refine Wp.cond (look_t rfl) (fun hc => ?_) (fun hc => ?_)
        · replace h := cond_t hc h
          refine Wp.seq ?_
          refine Wp.reg ?_
          refine Sq.v (r_asg (look_bool false)) rfl rfl rfl ?_
          refine Sq.nil ?_
          refine To.next ?_
          refine Wp.ret ?_
          refine To.ret ?_
          refine To.bret ?_
          refine To.ret ?_
          replace h := some_in h
          subst h
          exact To.leaveG () 3 rfl (by simp) rfl (.same rfl (.same rfl (.same rfl (.same rfl (.same rfl (.same rfl (.same rfl (.same rfl (.same rfl (.same rfl (.same rfl (.same rfl (.same rfl (.same rfl (.same rfl (.same rfl .nil))))))))))))))))
        · replace h := cond_f hc h
          refine Wp.skip ?_
          refine To.next ?_
          refine Wp.seq ?_
          refine Wp.reg ?_
          refine Sq.v (r_move (look_t rfl)) rfl rfl rfl ?_
          refine Sq.v (r_eql (look_t rfl) (look_int 0)) rfl rfl rfl ?_
          refine Sq.nil ?_
          refine To.next ?_
          obtain ⟨m2, hm2, h⟩ := bind_some h
          refine Wp.condM (γ := Unit) (fun g3 => [(0, VP.of (x0)), (1, VP.of (x1)), (4, VP.of (false)), (5, VP.eq (.pointer (some ⟨p1, 0, none⟩))), (6, VP.eq (.pointer (some ⟨p2, 0, none⟩))), (7, VP.eq (.pointer (some ⟨p3, 0, none⟩))), (9, VP.eq (.pointer (some ⟨p4, 0, none⟩))), (10, VP.eq (.pointer (some ⟨p5, 0, none⟩))), (11, VP.eq (.pointer (some ⟨p6, 0, none⟩))), (12, VP.of (m1.1)), (13, VP.of (m1.2.1)), (14, VP.of (m1.2.2.1)), (15, VP.of (m1.2.2.2.1)), (23, VP.of (y3)), (24, VP.of (y3.length : Int)), (25, VP.of (s1.1)), (26, VP.of (decide (s1.1 < (y3.length : Int)))), (34, VP.of (y5 == (0#8))), (88, VP.of (((m1.2.2.1 != m1.2.2.2.1) || (m1.1 != m1.2.1)) || (!y6))), (90, VP.of (m1.2.2.1 == 0))]) (fun g3 => [⟨some p6, .var (m1.2.2.2.2.1 : T_ref20_State)⟩, ⟨some p5, .var (m1.2.2.2.2.2 : T_session_State)⟩, ⟨some p4, .var (y4 : T_law20_Op)⟩, ⟨some p3, .var (m2.1 : T_ref20_State)⟩, ⟨some p2, .var (m2.2 : T_session_State)⟩, ⟨some p1, .var (y2.1 : T_api_Schema)⟩, ⟨some q1, .var (y2.2 : T_mcase_Codes)⟩]) (look_t rfl) (fun g3 => ?_) (fun hm hc => ?_) (fun hm hc => ?_)
          · clear hm2
            refine To.bnorm ?_
            refine To.next ?_
            refine Wp.reg ?_
            refine Sq.v (r_add (look_t rfl) (look_int 1)) rfl rfl rfl ?_
            refine Sq.v (r_move (look_t rfl)) rfl rfl rfl ?_
            refine Sq.nil ?_
            replace h := some_in h
            subst h
            exact To.roundG () 3 rfl (.same rfl (.same rfl (.same rfl (.same rfl (.same rfl (.same rfl (.same rfl (.same rfl (.same rfl .nil)))))))))
          · have h := cond_t hc hm2
            refine Wp.draw mixed 3 [some 91, some 92, none] [[], [], [0]] [.val (VP.of (m1.2.2.2.2.2)), .val (VP.of (m1.2.2.2.2.1)), .sto 4 (.var (m1.2.2.2.2.2 : T_session_State))] [false, false, true] (by kernel_rfl) rfl rfl rfl (fun ps1 => ⟨fun L' hL => HO.v (r_load (i := 1) (Lens.id T_session_State) (r := m1.2.2.2.2.2) ty40 (look_t rfl) (hL _ _ rfl (by kernel_rfl)) rfl rfl) rfl, fun L' hL => HO.v (r_load (i := 0) (Lens.id T_ref20_State) (r := m1.2.2.2.2.1) ty44 (look_t rfl) (hL _ _ rfl (by kernel_rfl)) rfl rfl) rfl, ⟨_, _, rfl, fun L' hL => so_var (i := 4) (Lens.id T_session_State) (v := (m1.2.2.2.2.2 : T_session_State)) (b' := (m1.2.2.2.2.2 : T_session_State)) ty40 (look_t rfl) (look_t rfl) (hL _ _ rfl) rfl rfl⟩, trivial⟩) fun ps1 => ?_
            refine Sq.store (i := 3) (Lens.id T_ref20_State) (v := (m1.2.2.2.2.1 : T_ref20_State)) (b' := (m1.2.2.2.2.1 : T_ref20_State)) ty44 (look_t rfl) (look_t rfl) rfl rfl rfl ?_
            refine Sq.nil ?_
            replace h := some_in h
            subst h
            exact To.meet 0 rfl (.same rfl (.same rfl (.same rfl (.same rfl (.same rfl (.same rfl (.same rfl (.same rfl (.same rfl (.same rfl (.same rfl (.same rfl (.same rfl (.same rfl (.same rfl (.same rfl (.same rfl (.same rfl (.same rfl (.same rfl .nil)))))))))))))))))))) (hm ())
          · have h := cond_f hc hm2
            refine Wp.skip ?_
            replace h := some_in h
            subst h
            exact To.meet 0 rfl (.same rfl (.same rfl (.same rfl (.same rfl (.same rfl (.same rfl (.same rfl (.same rfl (.same rfl (.same rfl (.same rfl (.same rfl (.same rfl (.same rfl (.same rfl (.same rfl (.same rfl (.same rfl (.same rfl (.same rfl .nil)))))))))))))))))))) (hm ())
      · have h := cond_t hc hm1
        refine Wp.seq ?_
        refine Wp.reg ?_
        refine Sq.v (r_load (i := 4) (Lens.id T_session_State) (r := s1.2.2) ty40 (look_t rfl) rfl rfl rfl) rfl rfl rfl ?_
        refine Sq.v (r_fa fd49_2 (look_t rfl)) rfl rfl rfl ?_
        refine Sq.v (r_load (i := 2) ((Lens.id T_law20_Op).comp le_T_law20_Op_Controller) (r := y4.f_Controller) ty3 (look_t rfl) rfl rfl rfl) rfl rfl rfl ?_
        obtain ⟨y7, hy7, h⟩ := bind_some h
        refine Sq.v (r_call en15 (C_session_Leave hy7) ⟨look_t rfl, look_t rfl, trivial⟩) rfl rfl rfl ?_
        refine Sq.v (r_move (look_t rfl)) rfl rfl rfl ?_
        refine Sq.v (r_ext (look_t rfl) rfl) rfl rfl rfl ?_
        refine Sq.v (r_ext (look_t rfl) rfl) rfl rfl rfl ?_
        refine Sq.store (i := 1) (Lens.id T_session_State) (v := (y7.1 : T_session_State)) (b' := (y7.1 : T_session_State)) ty40 (look_t rfl) (look_t rfl) rfl rfl rfl ?_
        refine Sq.v (r_asg (look_t rfl)) rfl rfl rfl ?_
        refine Sq.nil ?_
        refine To.next ?_
        refine Wp.reg ?_
        refine Sq.v (r_load (i := 3) (Lens.id T_ref20_State) (r := s1.2.1) ty44 (look_t rfl) rfl rfl rfl) rfl rfl rfl ?_
        refine Sq.v (r_fa fd49_2 (look_t rfl)) rfl rfl rfl ?_
        refine Sq.v (r_load (i := 2) ((Lens.id T_law20_Op).comp le_T_law20_Op_Controller) (r := y4.f_Controller) ty3 (look_t rfl) rfl rfl rfl) rfl rfl rfl ?_
        obtain ⟨y8, hy8, h⟩ := bind_some h
        refine Sq.v (r_call en16 (C_ref20_Leave hy8) ⟨look_t rfl, look_t rfl, trivial⟩) rfl rfl rfl ?_
        refine Sq.v (r_move (look_t rfl)) rfl rfl rfl ?_
        refine Sq.v (r_ext (look_t rfl) rfl) rfl rfl rfl ?_
        refine Sq.v (r_ext (look_t rfl) rfl) rfl rfl rfl ?_
        refine Sq.store (i := 0) (Lens.id T_ref20_State) (v := (y8.1 : T_ref20_State)) (b' := (y8.1 : T_ref20_State)) ty44 (look_t rfl) (look_t rfl) rfl rfl rfl ?_
        refine Sq.v (r_asg (look_t rfl)) rfl rfl rfl ?_
        refine Sq.nil ?_
        replace h := some_in h
        subst h
        exact To.meet 0 rfl (.same rfl (.same rfl (.same rfl (.same rfl (.same rfl (.same rfl (.same rfl (.same rfl (.same rfl (.same rfl (.same rfl (.same rfl (.same rfl (.same rfl (.same rfl (.same rfl (.same rfl (.same rfl .nil)))))))))))))))))) (hm ())
      · have h := cond_f hc hm1
        refine Wp.seq ?_
        refine Wp.reg ?_
        refine Sq.v (r_load (i := 4) (Lens.id T_session_State) (r := s1.2.2) ty40 (look_t rfl) rfl rfl rfl) rfl rfl rfl ?_
        refine Sq.v (r_load (i := 5) (Lens.id T_api_Schema) (r := y2.1) ty33 (look_t rfl) rfl rfl rfl) rfl rfl rfl ?_
        refine Sq.v (r_fa fd49_2 (look_t rfl)) rfl rfl rfl ?_
        refine Sq.v (r_load (i := 2) ((Lens.id T_law20_Op).comp le_T_law20_Op_Controller) (r := y4.f_Controller) ty3 (look_t rfl) rfl rfl rfl) rfl rfl rfl ?_
        refine Sq.v (r_fa fd49_3 (look_t rfl)) rfl rfl rfl ?_
        refine Sq.v (r_load (i := 2) ((Lens.id T_law20_Op).comp le_T_law20_Op_Role) (r := y4.f_Role) ty3 (look_t rfl) rfl rfl rfl) rfl rfl rfl ?_
        refine Sq.v (r_fa fd49_4 (look_t rfl)) rfl rfl rfl ?_
        refine Sq.v (r_load (i := 2) ((Lens.id T_law20_Op).comp le_T_law20_Op_Election) (r := y4.f_Election) ty47 (look_t rfl) rfl rfl rfl) rfl rfl rfl ?_
        obtain ⟨y9, hy9, h⟩ := bind_some h
        refine Sq.v (r_call en17 (C_session_Arbitrate hy9) ⟨look_t rfl, look_t rfl, look_t rfl, look_t rfl, look_t rfl, trivial⟩) rfl rfl rfl ?_
        refine Sq.v (r_move (look_t rfl)) rfl rfl rfl ?_
        refine Sq.v (r_ext (look_t rfl) rfl) rfl rfl rfl ?_
        refine Sq.v (r_ext (look_t rfl) rfl) rfl rfl rfl ?_
        refine Sq.v (r_ext (look_t rfl) rfl) rfl rfl rfl ?_
        refine Sq.store (i := 1) (Lens.id T_session_State) (v := (y9.1 : T_session_State)) (b' := (y9.1 : T_session_State)) ty40 (look_t rfl) (look_t rfl) rfl rfl rfl ?_
        refine Sq.v (r_asg (look_t rfl)) rfl rfl rfl ?_
        refine Sq.v (r_asg (look_t rfl)) rfl rfl rfl ?_
        refine Sq.nil ?_
        refine To.next ?_
        refine Wp.reg ?_
        refine Sq.v (r_load (i := 3) (Lens.id T_ref20_State) (r := s1.2.1) ty44 (look_t rfl) rfl rfl rfl) rfl rfl rfl ?_
        refine Sq.v (r_load (i := 5) (Lens.id T_api_Schema) (r := y2.1) ty33 (look_t rfl) rfl rfl rfl) rfl rfl rfl ?_
        refine Sq.v (r_fa fd49_2 (look_t rfl)) rfl rfl rfl ?_
        refine Sq.v (r_load (i := 2) ((Lens.id T_law20_Op).comp le_T_law20_Op_Controller) (r := y4.f_Controller) ty3 (look_t rfl) rfl rfl rfl) rfl rfl rfl ?_
        refine Sq.v (r_fa fd49_3 (look_t rfl)) rfl rfl rfl ?_
        refine Sq.v (r_load (i := 2) ((Lens.id T_law20_Op).comp le_T_law20_Op_Role) (r := y4.f_Role) ty3 (look_t rfl) rfl rfl rfl) rfl rfl rfl ?_
        refine Sq.v (r_fa fd49_4 (look_t rfl)) rfl rfl rfl ?_
        refine Sq.v (r_load (i := 2) ((Lens.id T_law20_Op).comp le_T_law20_Op_Election) (r := y4.f_Election) ty47 (look_t rfl) rfl rfl rfl) rfl rfl rfl ?_
        obtain ⟨y10, hy10, h⟩ := bind_some h
        refine Sq.v (r_call en18 (C_ref20_Arbitrate hy10) ⟨look_t rfl, look_t rfl, look_t rfl, look_t rfl, look_t rfl, trivial⟩) rfl rfl rfl ?_
        refine Sq.v (r_move (look_t rfl)) rfl rfl rfl ?_
        refine Sq.v (r_ext (look_t rfl) rfl) rfl rfl rfl ?_
        refine Sq.v (r_ext (look_t rfl) rfl) rfl rfl rfl ?_
        refine Sq.v (r_ext (look_t rfl) rfl) rfl rfl rfl ?_
        refine Sq.store (i := 0) (Lens.id T_ref20_State) (v := (y10.1 : T_ref20_State)) (b' := (y10.1 : T_ref20_State)) ty44 (look_t rfl) (look_t rfl) rfl rfl rfl ?_
        refine Sq.v (r_asg (look_t rfl)) rfl rfl rfl ?_
        refine Sq.v (r_asg (look_t rfl)) rfl rfl rfl ?_
        refine Sq.nil ?_
        replace h := some_in h
        subst h
        exact To.meet 0 rfl (.same rfl (.same rfl (.same rfl (.same rfl (.same rfl (.same rfl (.same rfl (.same rfl (.same rfl (.same rfl (.same rfl (.same rfl (.same rfl (.same rfl (.same rfl (.same rfl (.same rfl (.same rfl .nil)))))))))))))))))) (hm ())
    · replace h := cond_f hc h
      refine Wp.exit ?_
      refine To.exit ?_
      replace h := some_in h
      subst h
      exact To.leaveG () 0 rfl (by simp) rfl (.same rfl (.same rfl (.same rfl (.same rfl (.same rfl (.same rfl (.same rfl (.same rfl (.same rfl (.same rfl .nil))))))))))
  · clear hl
    rcases e1 with e1 | e1
    · simp only [Sum.elim_inl] at h
      refine To.bexit ?_
      refine To.next ?_
      refine Wp.seq ?_
      refine Wp.reg ?_
      obtain ⟨y11, hy11, h⟩ := bind_some h
      refine Sq.v (r_call en20 (C_law20_begun hy11) trivial) rfl rfl rfl ?_
      refine Sq.v (r_asg (look_t rfl)) rfl rfl rfl ?_
      refine Sq.nil ?_
      refine To.next ?_
      refine Wp.ret ?_
      replace h := some_in h
      subst h
      exact To.end1 rfl (rv_t rfl)
    · simp only [Sum.elim_inr] at h
      refine To.bret ?_
      refine To.ret ?_
      replace h := some_in h
      subst h
      exact To.end1 rfl (rv_t rfl)
end Go.Proofs.Ytodajdohokmjnaa
