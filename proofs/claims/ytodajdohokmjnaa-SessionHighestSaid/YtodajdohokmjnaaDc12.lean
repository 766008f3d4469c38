/-
  Printed by the decompiler (dec.py) out of the seat's translation. Each function meets its functional program. Conditions: none.
-/
import Derived.Test.YtodajdohokmjnaaDc0
import Derived.Test.YtodajdohokmjnaaDc3
import Derived.Test.YtodajdohokmjnaaDc5
import Derived.Test.YtodajdohokmjnaaDc10
import Derived.Test.YtodajdohokmjnaaDc11
namespace Go.Proofs.Ytodajdohokmjnaa
open Go Gv
set_option linter.unusedVariables false
set_option linter.unusedSimpArgs false
set_option maxRecDepth 100000
set_option maxHeartbeats 2000000 in
theorem C_law20_play {x0 : T_api_Schema} {x1 : List T_law20_Op}  {r : T_session_State} (h : L_law20_play x0 x1 = some r) : Meets Try.prog 21 [VP.of (x0), VP.of (x1)] (VP.of (r)) := by
  unfold L_law20_play at h
  refine Meets.of Try.func21 rfl Try.ntmps21 rfl fun W A => ?_
  refine Wp.seq ?_
  refine Wp.reg ?_
  refine Sq.box (z := (x0 : T_api_Schema)) (look_t rfl) rfl fun p1 => ?_
  refine Sq.alloc zr40 rfl fun p2 => ?_
  refine Sq.nil ?_
  refine To.next ?_
  refine Wp.seq ?_
  refine Wp.reg ?_
  refine Sq.alloc zr40 rfl fun p3 => ?_
  refine Sq.nil ?_
  refine To.next ?_
  refine Wp.seq ?_
  refine Wp.seq ?_
  refine Wp.reg ?_
  refine Sq.v (r_move (look_t rfl)) rfl rfl rfl ?_
  refine Sq.v (r_move (look_t rfl)) rfl rfl rfl ?_
  refine Sq.v (r_len Try.underlying23 (look_t rfl)) rfl rfl rfl ?_
  refine Sq.v (r_min (look_t rfl) (look_int 24)) rfl rfl rfl ?_
  obtain ⟨y1, hy1, h⟩ := bind_some h
  refine Sq.v (r_slice Try.underlying23 ty49 (look_t rfl) .none (.some (look_t rfl)) hy1) rfl rfl rfl ?_
  refine Sq.v (r_len Try.underlying23 (look_t rfl)) rfl rfl rfl ?_
  refine Sq.v (r_move (look_int 0)) rfl rfl rfl ?_
  refine Sq.nil ?_
  refine To.next ?_
  refine Wp.block ?_
  obtain ⟨e1, hl, h⟩ := bind_some h
  refine Wp.loopG (σ := Int × T_session_State) (ε := (Int × Bool × T_session_State)) (γ := Unit) (δ := Unit) hl (fun s1 g1 => [(0, VP.of (x0)), (1, VP.of (x1)), (2, VP.eq (.pointer (some ⟨p1, 0, none⟩))), (4, VP.eq (.pointer (some ⟨p2, 0, none⟩))), (5, VP.eq (.pointer (some ⟨p3, 0, none⟩))), (17, VP.of (y1)), (18, VP.of (y1.length : Int)), (19, VP.of (s1.1))]) (fun s1 g1 => [⟨some p3, .var (s1.2 : T_session_State)⟩, ⟨some p2, .var ((default : T_session_State) : T_session_State)⟩, ⟨some p1, .var (x0 : T_api_Schema)⟩]) (fun q1 => Exit.exit 0) (fun q1 g1 => [(0, VP.of (x0)), (1, VP.of (x1)), (2, VP.eq (.pointer (some ⟨p1, 0, none⟩))), (4, VP.eq (.pointer (some ⟨p2, 0, none⟩))), (5, VP.eq (.pointer (some ⟨p3, 0, none⟩))), (17, VP.of (y1)), (18, VP.of (y1.length : Int)), (19, VP.of (q1.1)), (20, VP.of (q1.2.1))]) (fun q1 g1 => [⟨some p3, .var (q1.2.2 : T_session_State)⟩, ⟨some p2, .var ((default : T_session_State) : T_session_State)⟩, ⟨some p1, .var (x0 : T_api_Schema)⟩]) () rfl (.same rfl (.same rfl (.same rfl (.same rfl (.same rfl (.same rfl (.same rfl (.same rfl .nil)))))))) (fun s1 r h g1 => ?_) (fun g1 => ?_)
  · clear hl
    refine Wp.seq ?_
    refine Wp.reg ?_
    refine Sq.v (r_lss (look_t rfl) (look_t rfl)) rfl rfl rfl ?_
    refine Sq.nil ?_
    refine To.next ?_
    refine Wp.seq ?_
    refine Wp.cond (look_t rfl) (fun hc => ?_) (fun hc => ?_)
    · replace h := cond_t hc h
      refine Wp.skip ?_
      refine To.next ?_
      refine Wp.seq ?_
      refine Wp.block ?_
      refine Wp.seq ?_
      refine Wp.reg ?_
      obtain ⟨k1, hk1, h⟩ := bind_some h
      refine Sq.v (r_ias (k := k1) Try.underlying23 ty49 (look_t rfl) (look_t rfl) (idx_some hk1)) rfl rfl rfl ?_
      refine Sq.v (r_loadp ty49 (look_t rfl)) rfl rfl rfl ?_
      refine Sq.alloc zr49 rfl fun p4 => ?_
      refine Sq.store (i := 0) (Lens.id T_law20_Op) (v := (lget y1 k1 : T_law20_Op)) (b' := (lget y1 k1 : T_law20_Op)) ty49 (look_t rfl) (look_t rfl) rfl rfl rfl ?_
      refine Sq.nil ?_
      refine To.next ?_
      refine Wp.seq ?_
      refine Wp.reg ?_
      refine Sq.v (r_fa fd49_1 (look_t rfl)) rfl rfl rfl ?_
      refine Sq.store (i := 0) ((Lens.id T_law20_Op).comp le_T_law20_Op_Raw) (v := (1#8 : BitVec 8)) (b' := (({ (lget y1 k1) with f_Raw := 1#8 } : T_law20_Op) : T_law20_Op)) ty5 (look_t rfl) (look_u8 1 rfl) rfl rfl rfl ?_
      refine Sq.nil ?_
      refine To.next ?_
      refine Wp.seq ?_
      refine Wp.reg ?_
      refine Sq.v (r_load (i := 0) (Lens.id T_law20_Op) (r := ({ (lget y1 k1) with f_Raw := 1#8 } : T_law20_Op)) ty49 (look_t rfl) rfl rfl rfl) rfl rfl rfl ?_
      obtain ⟨y2, hy2, h⟩ := bind_some h
      refine Sq.v (r_call en14 (C_law20_Op_near hy2) ⟨look_t rfl, trivial⟩) rfl rfl rfl ?_
      refine Sq.store (i := 0) (Lens.id T_law20_Op) (v := (y2 : T_law20_Op)) (b' := (y2 : T_law20_Op)) ty49 (look_t rfl) (look_t rfl) rfl rfl rfl ?_
      refine Sq.nil ?_
      refine To.next ?_
      refine Wp.seq ?_
      refine Wp.reg ?_
      refine Sq.v (r_fa fd49_0 (look_t rfl)) rfl rfl rfl ?_
      refine Sq.v (r_load (i := 0) ((Lens.id T_law20_Op).comp le_T_law20_Op_Kind) (r := y2.f_Kind) ty5 (look_t rfl) rfl rfl rfl) rfl rfl rfl ?_
      obtain ⟨y3, hy3, h⟩ := bind_some h
      refine Sq.v (r_rem8 (look_t rfl) (look_u8 4 rfl) (uremM_some hy3)) rfl rfl rfl ?_
      refine Sq.v (r_eql8 (look_t rfl) (look_u8 0 rfl)) rfl rfl rfl ?_
      refine Sq.nil ?_
      refine To.next ?_
      obtain ⟨m1, hm1, h⟩ := bind_some h
      refine Wp.condM (γ := Unit) (fun g2 => [(0, VP.of (x0)), (1, VP.of (x1)), (2, VP.eq (.pointer (some ⟨p1, 0, none⟩))), (4, VP.eq (.pointer (some ⟨p2, 0, none⟩))), (5, VP.eq (.pointer (some ⟨p3, 0, none⟩))), (7, VP.eq (.pointer (some ⟨p4, 0, none⟩))), (17, VP.of (y1)), (18, VP.of (y1.length : Int)), (19, VP.of (s1.1)), (20, VP.of (decide (s1.1 < (y1.length : Int)))), (29, VP.of (y3 == (0#8)))]) (fun g2 => [⟨some p4, .var (y2 : T_law20_Op)⟩, ⟨some p3, .var (m1 : T_session_State)⟩, ⟨some p2, .var ((default : T_session_State) : T_session_State)⟩, ⟨some p1, .var (x0 : T_api_Schema)⟩]) (look_t rfl) (fun g2 => ?_) (fun hm hc => ?_) (fun hm hc => ?_)
      · clear hm1
        refine To.bnorm ?_
        refine To.next ?_
        refine Wp.reg ?_
        refine Sq.v (r_add (look_t rfl) (look_int 1)) rfl rfl rfl ?_
        refine Sq.v (r_move (look_t rfl)) rfl rfl rfl ?_
        refine Sq.nil ?_
        replace h := some_in h
        subst h
        exact To.roundG () 1 rfl (.same rfl (.same rfl (.same rfl (.same rfl (.same rfl (.same rfl (.same rfl (.same rfl .nil))))))))
      · have h := cond_t hc hm1
        refine Wp.seq ?_
        refine Wp.reg ?_
        refine Sq.v (r_load (i := 1) (Lens.id T_session_State) (r := s1.2) ty40 (look_t rfl) rfl rfl rfl) rfl rfl rfl ?_
        refine Sq.v (r_fa fd49_2 (look_t rfl)) rfl rfl rfl ?_
        refine Sq.v (r_load (i := 0) ((Lens.id T_law20_Op).comp le_T_law20_Op_Controller) (r := y2.f_Controller) ty3 (look_t rfl) rfl rfl rfl) rfl rfl rfl ?_
        obtain ⟨y4, hy4, h⟩ := bind_some h
        refine Sq.v (r_call en15 (C_session_Leave hy4) ⟨look_t rfl, look_t rfl, trivial⟩) rfl rfl rfl ?_
        refine Sq.v (r_move (look_t rfl)) rfl rfl rfl ?_
        refine Sq.v (r_ext (look_t rfl) rfl) rfl rfl rfl ?_
        refine Sq.v (r_ext (look_t rfl) rfl) rfl rfl rfl ?_
        refine Sq.alloc zr40 rfl fun p5 => ?_
        refine Sq.store (i := 0) (Lens.id T_session_State) (v := (y4.1 : T_session_State)) (b' := (y4.1 : T_session_State)) ty40 (look_t rfl) (look_t rfl) rfl rfl rfl ?_
        refine Sq.v (r_asg (look_t rfl)) rfl rfl rfl ?_
        refine Sq.nil ?_
        refine To.next ?_
        refine Wp.seq ?_
        refine Wp.reg ?_
        refine Sq.v (r_move (look_t rfl)) rfl rfl rfl ?_
        refine Sq.v (r_eql (look_t rfl) (look_int 0)) rfl rfl rfl ?_
        refine Sq.nil ?_
        refine To.next ?_
        obtain ⟨m2, hm2, h⟩ := bind_some h
        refine Wp.condM (γ := Unit) (fun g3 => [(0, VP.of (x0)), (1, VP.of (x1)), (2, VP.eq (.pointer (some ⟨p1, 0, none⟩))), (4, VP.eq (.pointer (some ⟨p2, 0, none⟩))), (5, VP.eq (.pointer (some ⟨p3, 0, none⟩))), (7, VP.eq (.pointer (some ⟨p4, 0, none⟩))), (8, VP.eq (.pointer (some ⟨p5, 0, none⟩))), (9, VP.of (y4.2)), (17, VP.of (y1)), (18, VP.of (y1.length : Int)), (19, VP.of (s1.1)), (20, VP.of (decide (s1.1 < (y1.length : Int)))), (29, VP.of (y3 == (0#8))), (38, VP.of (y4.2 == 0))]) (fun g3 => [⟨some p5, .var (y4.1 : T_session_State)⟩, ⟨some p4, .var (y2 : T_law20_Op)⟩, ⟨some p3, .var (m2 : T_session_State)⟩, ⟨some p2, .var ((default : T_session_State) : T_session_State)⟩, ⟨some p1, .var (x0 : T_api_Schema)⟩]) (look_t rfl) (fun g3 => ?_) (fun hm hc => ?_) (fun hm hc => ?_)
        · clear hm2
          replace h := some_in h
          subst h
          exact To.meet 1 rfl (.same rfl (.same rfl (.same rfl (.same rfl (.same rfl (.same rfl (.same rfl (.same rfl (.same rfl (.same rfl (.same rfl .nil))))))))))) (hm ())
        · have h := cond_t hc hm2
          refine Wp.reg ?_
          refine Sq.v (r_load (i := 0) (Lens.id T_session_State) (r := y4.1) ty40 (look_t rfl) rfl rfl rfl) rfl rfl rfl ?_
          refine Sq.store (i := 2) (Lens.id T_session_State) (v := (y4.1 : T_session_State)) (b' := (y4.1 : T_session_State)) ty40 (look_t rfl) (look_t rfl) rfl rfl rfl ?_
          refine Sq.nil ?_
          replace h := some_in h
          subst h
          exact To.meet 0 rfl (.same rfl (.same rfl (.same rfl (.same rfl (.same rfl (.same rfl (.same rfl (.same rfl (.same rfl (.same rfl (.same rfl (.same rfl (.same rfl (.same rfl .nil)))))))))))))) (hm ())
        · have h := cond_f hc hm2
          refine Wp.skip ?_
          replace h := some_in h
          subst h
          exact To.meet 0 rfl (.same rfl (.same rfl (.same rfl (.same rfl (.same rfl (.same rfl (.same rfl (.same rfl (.same rfl (.same rfl (.same rfl (.same rfl (.same rfl (.same rfl .nil)))))))))))))) (hm ())
      · have h := cond_f hc hm1
        refine Wp.seq ?_
        refine Wp.reg ?_
        refine Sq.v (r_load (i := 1) (Lens.id T_session_State) (r := s1.2) ty40 (look_t rfl) rfl rfl rfl) rfl rfl rfl ?_
        refine Sq.v (r_load (i := 3) (Lens.id T_api_Schema) (r := x0) ty33 (look_t rfl) rfl rfl rfl) rfl rfl rfl ?_
        refine Sq.v (r_fa fd49_2 (look_t rfl)) rfl rfl rfl ?_
        refine Sq.v (r_load (i := 0) ((Lens.id T_law20_Op).comp le_T_law20_Op_Controller) (r := y2.f_Controller) ty3 (look_t rfl) rfl rfl rfl) rfl rfl rfl ?_
        refine Sq.v (r_fa fd49_3 (look_t rfl)) rfl rfl rfl ?_
        refine Sq.v (r_load (i := 0) ((Lens.id T_law20_Op).comp le_T_law20_Op_Role) (r := y2.f_Role) ty3 (look_t rfl) rfl rfl rfl) rfl rfl rfl ?_
        refine Sq.v (r_fa fd49_4 (look_t rfl)) rfl rfl rfl ?_
        refine Sq.v (r_load (i := 0) ((Lens.id T_law20_Op).comp le_T_law20_Op_Election) (r := y2.f_Election) ty47 (look_t rfl) rfl rfl rfl) rfl rfl rfl ?_
        obtain ⟨y5, hy5, h⟩ := bind_some h
        refine Sq.v (r_call en17 (C_session_Arbitrate hy5) ⟨look_t rfl, look_t rfl, look_t rfl, look_t rfl, look_t rfl, trivial⟩) rfl rfl rfl ?_
        refine Sq.v (r_move (look_t rfl)) rfl rfl rfl ?_
        refine Sq.v (r_ext (look_t rfl) rfl) rfl rfl rfl ?_
        refine Sq.v (r_ext (look_t rfl) rfl) rfl rfl rfl ?_
        refine Sq.v (r_ext (look_t rfl) rfl) rfl rfl rfl ?_
        refine Sq.alloc zr40 rfl fun p6 => ?_
        refine Sq.store (i := 0) (Lens.id T_session_State) (v := (y5.1 : T_session_State)) (b' := (y5.1 : T_session_State)) ty40 (look_t rfl) (look_t rfl) rfl rfl rfl ?_
        refine Sq.v (r_asg (look_t rfl)) rfl rfl rfl ?_
        refine Sq.v (r_asg (look_t rfl)) rfl rfl rfl ?_
        refine Sq.nil ?_
        refine To.next ?_
        refine Wp.seq ?_
        refine Wp.reg ?_
        refine Sq.v (r_move (look_t rfl)) rfl rfl rfl ?_
        refine Sq.v (r_eql (look_t rfl) (look_int 0)) rfl rfl rfl ?_
        refine Sq.nil ?_
        refine To.next ?_
        obtain ⟨m3, hm3, h⟩ := bind_some h
        refine Wp.condM (γ := Unit) (fun g4 => [(0, VP.of (x0)), (1, VP.of (x1)), (2, VP.eq (.pointer (some ⟨p1, 0, none⟩))), (4, VP.eq (.pointer (some ⟨p2, 0, none⟩))), (5, VP.eq (.pointer (some ⟨p3, 0, none⟩))), (7, VP.eq (.pointer (some ⟨p4, 0, none⟩))), (10, VP.eq (.pointer (some ⟨p6, 0, none⟩))), (12, VP.of (y5.2.2)), (17, VP.of (y1)), (18, VP.of (y1.length : Int)), (19, VP.of (s1.1)), (20, VP.of (decide (s1.1 < (y1.length : Int)))), (29, VP.of (y3 == (0#8))), (54, VP.of (y5.2.2 == 0))]) (fun g4 => [⟨some p6, .var (y5.1 : T_session_State)⟩, ⟨some p4, .var (y2 : T_law20_Op)⟩, ⟨some p3, .var (m3 : T_session_State)⟩, ⟨some p2, .var ((default : T_session_State) : T_session_State)⟩, ⟨some p1, .var (x0 : T_api_Schema)⟩]) (look_t rfl) (fun g4 => ?_) (fun hm hc => ?_) (fun hm hc => ?_)
        · clear hm3
          replace h := some_in h
          subst h
          exact To.meet 1 rfl (.same rfl (.same rfl (.same rfl (.same rfl (.same rfl (.same rfl (.same rfl (.same rfl (.same rfl (.same rfl (.same rfl .nil))))))))))) (hm ())
        · have h := cond_t hc hm3
          refine Wp.reg ?_
          refine Sq.v (r_load (i := 0) (Lens.id T_session_State) (r := y5.1) ty40 (look_t rfl) rfl rfl rfl) rfl rfl rfl ?_
          refine Sq.store (i := 2) (Lens.id T_session_State) (v := (y5.1 : T_session_State)) (b' := (y5.1 : T_session_State)) ty40 (look_t rfl) (look_t rfl) rfl rfl rfl ?_
          refine Sq.nil ?_
          replace h := some_in h
          subst h
          exact To.meet 0 rfl (.same rfl (.same rfl (.same rfl (.same rfl (.same rfl (.same rfl (.same rfl (.same rfl (.same rfl (.same rfl (.same rfl (.same rfl (.same rfl (.same rfl .nil)))))))))))))) (hm ())
        · have h := cond_f hc hm3
          refine Wp.skip ?_
          replace h := some_in h
          subst h
          exact To.meet 0 rfl (.same rfl (.same rfl (.same rfl (.same rfl (.same rfl (.same rfl (.same rfl (.same rfl (.same rfl (.same rfl (.same rfl (.same rfl (.same rfl (.same rfl .nil)))))))))))))) (hm ())
    · replace h := cond_f hc h
      refine Wp.exit ?_
      refine To.exit ?_
      replace h := some_in h
      subst h
      exact To.leaveG () 0 rfl (by simp) rfl (.same rfl (.same rfl (.same rfl (.same rfl (.same rfl (.same rfl (.same rfl (.same rfl (.same rfl .nil)))))))))
  · clear hl
    refine To.bexit ?_
    refine To.next ?_
    refine Wp.seq ?_
    refine Wp.reg ?_
    refine Sq.v (r_load (i := 0) (Lens.id T_session_State) (r := e1.2.2) ty40 (look_t rfl) rfl rfl rfl) rfl rfl rfl ?_
    refine Sq.store (i := 1) (Lens.id T_session_State) (v := (e1.2.2 : T_session_State)) (b' := (e1.2.2 : T_session_State)) ty40 (look_t rfl) (look_t rfl) rfl rfl rfl ?_
    refine Sq.nil ?_
    refine To.next ?_
    refine Wp.ret ?_
    replace h := some_in h
    subst h
    exact To.end1 rfl (rv_c (i := 1) ty40 rfl rfl)
set_option maxHeartbeats 2000000 in
theorem C_law20_begun   {r : Bool} (h : L_law20_begun  = some r) : Meets Try.prog 20 [] (VP.of (r)) := by
  unfold L_law20_begun at h
  refine Meets.of Try.func20 rfl Try.ntmps20 rfl fun W A => ?_
  refine Wp.seq ?_
  refine Wp.reg ?_
  refine Sq.v (r_asg (look_bool false)) rfl rfl rfl ?_
  refine Sq.nil ?_
  refine To.next ?_
  refine Wp.seq ?_
  refine Wp.reg ?_
  obtain ⟨y1, hy1, h⟩ := bind_some h
  refine Sq.callO (Lin := []) (Lr := []) en12 (C_mcase_New hy1) ⟨look_nil, look_int 0, trivial⟩ rfl fun q1 => ?_
  refine Sq.bring 0 rfl ?_
  obtain ⟨y2, hy2, h⟩ := bind_some h
  refine Sq.callO (Lin := [⟨some q1, .var (y1 : T_mcase_Codes)⟩]) (Lr := []) en13 (C_mcase_Codes_Schema hy2) ⟨look_t rfl, trivial⟩ rfl fun q2 => ?_
  refine Sq.alloc zr33 rfl fun p1 => ?_
  refine Sq.store (i := 0) (Lens.id T_api_Schema) (v := (y2.1 : T_api_Schema)) (b' := (y2.1 : T_api_Schema)) ty33 (look_t rfl) (look_t rfl) rfl rfl rfl ?_
  refine Sq.nil ?_
  refine To.next ?_
  refine Wp.seq ?_
  refine Wp.reg ?_
  refine Sq.v (r_build (b := (default : T_session_State)) rfl bu40 zr40 (.nil)) rfl rfl rfl ?_
  refine Sq.v (r_load (i := 0) (Lens.id T_api_Schema) (r := y2.1) ty33 (look_t rfl) rfl rfl rfl) rfl rfl rfl ?_
  refine Sq.v (r_build (b := ({ (default : T_api_Value) with f_Lo := 5#64 } : T_api_Value)) rfl bu47 zr47 (.cons le_T_api_Value_Lo rfl (look_u64 5 rfl) rfl (.nil))) rfl rfl rfl ?_
  obtain ⟨y3, hy3, h⟩ := bind_some h
  refine Sq.v (r_call en17 (C_session_Arbitrate hy3) ⟨look_t rfl, look_t rfl, look_int 0, look_int 1, look_t rfl, trivial⟩) rfl rfl rfl ?_
  refine Sq.v (r_move (look_t rfl)) rfl rfl rfl ?_
  refine Sq.v (r_ext (look_t rfl) rfl) rfl rfl rfl ?_
  refine Sq.v (r_ext (look_t rfl) rfl) rfl rfl rfl ?_
  refine Sq.v (r_ext (look_t rfl) rfl) rfl rfl rfl ?_
  refine Sq.alloc zr40 rfl fun p2 => ?_
  refine Sq.store (i := 0) (Lens.id T_session_State) (v := (y3.1 : T_session_State)) (b' := (y3.1 : T_session_State)) ty40 (look_t rfl) (look_t rfl) rfl rfl rfl ?_
  refine Sq.v (r_asg (look_t rfl)) rfl rfl rfl ?_
  refine Sq.v (r_asg (look_t rfl)) rfl rfl rfl ?_
  refine Sq.nil ?_
  refine To.next ?_
  refine Wp.seq ?_
  refine Wp.reg ?_
  refine Sq.v (r_load (i := 0) (Lens.id T_session_State) (r := y3.1) ty40 (look_t rfl) rfl rfl rfl) rfl rfl rfl ?_
  refine Sq.v (r_load (i := 1) (Lens.id T_api_Schema) (r := y2.1) ty33 (look_t rfl) rfl rfl rfl) rfl rfl rfl ?_
  refine Sq.v (r_build (b := ({ (default : T_api_Value) with f_Lo := 3#64 } : T_api_Value)) rfl bu47 zr47 (.cons le_T_api_Value_Lo rfl (look_u64 3 rfl) rfl (.nil))) rfl rfl rfl ?_
  obtain ⟨y4, hy4, h⟩ := bind_some h
  refine Sq.v (r_call en17 (C_session_Arbitrate hy4) ⟨look_t rfl, look_t rfl, look_int 1, look_int 1, look_t rfl, trivial⟩) rfl rfl rfl ?_
  refine Sq.v (r_move (look_t rfl)) rfl rfl rfl ?_
  refine Sq.v (r_ext (look_t rfl) rfl) rfl rfl rfl ?_
  refine Sq.v (r_ext (look_t rfl) rfl) rfl rfl rfl ?_
  refine Sq.v (r_ext (look_t rfl) rfl) rfl rfl rfl ?_
  refine Sq.store (i := 0) (Lens.id T_session_State) (v := (y4.1 : T_session_State)) (b' := (y4.1 : T_session_State)) ty40 (look_t rfl) (look_t rfl) rfl rfl rfl ?_
  refine Sq.v (r_asg (look_t rfl)) rfl rfl rfl ?_
  refine Sq.v (r_asg (look_t rfl)) rfl rfl rfl ?_
  refine Sq.nil ?_
  refine To.next ?_
  refine Wp.seq ?_
  refine Wp.reg ?_
  refine Sq.v (r_load (i := 0) (Lens.id T_session_State) (r := y4.1) ty40 (look_t rfl) rfl rfl rfl) rfl rfl rfl ?_
  obtain ⟨y5, hy5, h⟩ := bind_some h
  refine Sq.v (r_call en15 (C_session_Leave hy5) ⟨look_t rfl, look_int 0, trivial⟩) rfl rfl rfl ?_
  refine Sq.v (r_move (look_t rfl)) rfl rfl rfl ?_
  refine Sq.v (r_ext (look_t rfl) rfl) rfl rfl rfl ?_
  refine Sq.v (r_ext (look_t rfl) rfl) rfl rfl rfl ?_
  refine Sq.store (i := 0) (Lens.id T_session_State) (v := (y5.1 : T_session_State)) (b' := (y5.1 : T_session_State)) ty40 (look_t rfl) (look_t rfl) rfl rfl rfl ?_
  refine Sq.nil ?_
  refine To.next ?_
  refine Wp.seq ?_
  refine Wp.reg ?_
  refine Sq.v (r_load (i := 0) (Lens.id T_session_State) (r := y5.1) ty40 (look_t rfl) rfl rfl rfl) rfl rfl rfl ?_
  obtain ⟨y6, hy6, h⟩ := bind_some h
  refine Sq.v (r_call en23 (C_session_Primary hy6) ⟨look_t rfl, look_int 1, trivial⟩) rfl rfl rfl ?_
  refine Sq.v (r_move (look_t rfl)) rfl rfl rfl ?_
  refine Sq.v (r_ext (look_t rfl) rfl) rfl rfl rfl ?_
  refine Sq.v (r_ext (look_t rfl) rfl) rfl rfl rfl ?_
  refine Sq.v (r_asg (look_t rfl)) rfl rfl rfl ?_
  refine Sq.v (r_asg (look_t rfl)) rfl rfl rfl ?_
  refine Sq.nil ?_
  refine To.next ?_
  refine Wp.seq ?_
  refine Wp.reg ?_
  refine Sq.v (r_load (i := 0) (Lens.id T_session_State) (r := y5.1) ty40 (look_t rfl) rfl rfl rfl) rfl rfl rfl ?_
  refine Sq.v (r_load (i := 1) (Lens.id T_api_Schema) (r := y2.1) ty33 (look_t rfl) rfl rfl rfl) rfl rfl rfl ?_
  refine Sq.v (r_build (b := ({ (default : T_api_Value) with f_Lo := 5#64 } : T_api_Value)) rfl bu47 zr47 (.cons le_T_api_Value_Lo rfl (look_u64 5 rfl) rfl (.nil))) rfl rfl rfl ?_
  obtain ⟨y7, hy7, h⟩ := bind_some h
  refine Sq.v (r_call en17 (C_session_Arbitrate hy7) ⟨look_t rfl, look_t rfl, look_int 1, look_int 1, look_t rfl, trivial⟩) rfl rfl rfl ?_
  refine Sq.v (r_move (look_t rfl)) rfl rfl rfl ?_
  refine Sq.v (r_ext (look_t rfl) rfl) rfl rfl rfl ?_
  refine Sq.v (r_ext (look_t rfl) rfl) rfl rfl rfl ?_
  refine Sq.v (r_ext (look_t rfl) rfl) rfl rfl rfl ?_
  refine Sq.alloc zr40 rfl fun p3 => ?_
  refine Sq.store (i := 0) (Lens.id T_session_State) (v := (y7.1 : T_session_State)) (b' := (y7.1 : T_session_State)) ty40 (look_t rfl) (look_t rfl) rfl rfl rfl ?_
  refine Sq.v (r_asg (look_t rfl)) rfl rfl rfl ?_
  refine Sq.v (r_asg (look_t rfl)) rfl rfl rfl ?_
  refine Sq.nil ?_
  refine To.next ?_
  refine Wp.seq ?_
  refine Wp.reg ?_
  refine Sq.v (r_move (look_t rfl)) rfl rfl rfl ?_
  refine Sq.v (r_move (look_t rfl)) rfl rfl rfl ?_
  refine Sq.g (fun hb => r_move (look_t rfl)) rfl rfl rfl rfl rfl ?_
  refine Sq.g (fun hb => r_not (look_tc rfl hb)) rfl rfl rfl rfl rfl ?_
  refine Sq.v (r_and (look_t rfl) (look_t rfl) (fun h => h)) rfl rfl rfl ?_
  refine Sq.v (r_move (look_t rfl)) rfl rfl rfl ?_
  refine Sq.g (fun hb => r_move (look_t rfl)) rfl rfl rfl rfl rfl ?_
  refine Sq.g (fun hb => r_not (look_tc rfl hb)) rfl rfl rfl rfl rfl ?_
  refine Sq.v (r_and (look_t rfl) (look_t rfl) (fun h => h)) rfl rfl rfl ?_
  refine Sq.v (r_move (look_t rfl)) rfl rfl rfl ?_
  refine Sq.g (fun hb => r_move (look_t rfl)) rfl rfl rfl rfl rfl ?_
  refine Sq.v (r_and (look_t rfl) (look_t rfl) (fun h => h)) rfl rfl rfl ?_
  refine Sq.v (r_move (look_t rfl)) rfl rfl rfl ?_
  refine Sq.g (fun hb => r_move (look_t rfl)) rfl rfl rfl rfl rfl ?_
  refine Sq.g (fun hb => r_eql (look_tc rfl hb) (look_int 0)) rfl rfl rfl rfl rfl ?_
  refine Sq.v (r_and (look_t rfl) (look_t rfl) (fun h => h)) rfl rfl rfl ?_
  refine Sq.v (r_asg (look_t rfl)) rfl rfl rfl ?_
  refine Sq.nil ?_
  refine To.next ?_
  refine Wp.ret ?_
  replace h := some_in h
  subst h
  exact To.end1 rfl (rv_t rfl)
end Go.Proofs.Ytodajdohokmjnaa
