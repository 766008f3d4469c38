/-
  Printed by the decompiler (dec.py) out of the seat's translation. Each function meets its functional program. Conditions: none.
-/
import Derived.Test.YtodajdohokmjnaaDc0
import Derived.Test.YtodajdohokmjnaaDc5
import Derived.Test.YtodajdohokmjnaaDc10
import Derived.Test.YtodajdohokmjnaaDc11
import Derived.Test.YtodajdohokmjnaaDc12
namespace Go.Proofs.Ytodajdohokmjnaa
open Go Gv
set_option linter.unusedVariables false
set_option linter.unusedSimpArgs false
set_option maxRecDepth 100000
set_option maxHeartbeats 2000000 in
theorem C_law20_SessionHighest {x0 : List (BitVec 8)} {x1 : List T_law20_Op} {x2 : Int} {x3 : Int} {x4 : BitVec 8}  {r : Bool} (h : L_law20_SessionHighest x0 x1 x2 x3 x4 = some r) : Meets Try.prog 4 [VP.of (x0), VP.of (x1), VP.of (x2), VP.of (x3), VP.of (x4)] (VP.of (r)) := by
  unfold L_law20_SessionHighest at h
  refine Meets.of Try.func4 rfl Try.ntmps4 rfl fun W A => ?_
  refine Wp.seq ?_
  refine Wp.reg ?_
  refine Sq.v (r_asg (look_bool false)) rfl rfl rfl ?_
  refine Sq.nil ?_
  refine To.next ?_
  refine Wp.seq ?_
  refine Wp.reg ?_
  refine Sq.v (r_move (look_t rfl)) rfl rfl rfl ?_
  obtain ⟨y1, hy1, h⟩ := bind_some h
  refine Sq.callO (Lin := []) (Lr := []) en12 (C_mcase_New hy1) ⟨look_t rfl, look_int 120, trivial⟩ rfl fun q1 => ?_
  refine Sq.bring 0 rfl ?_
  obtain ⟨y2, hy2, h⟩ := bind_some h
  refine Sq.callO (Lin := [⟨some q1, .var (y1 : T_mcase_Codes)⟩]) (Lr := []) en13 (C_mcase_Codes_Schema hy2) ⟨look_t rfl, trivial⟩ rfl fun q2 => ?_
  refine Sq.alloc zr33 rfl fun p1 => ?_
  refine Sq.store (i := 0) (Lens.id T_api_Schema) (v := (y2.1 : T_api_Schema)) (b' := (y2.1 : T_api_Schema)) ty33 (look_t rfl) (look_t rfl) rfl rfl rfl ?_
  refine Sq.nil ?_
  refine To.next ?_
  refine Wp.seq ?_
  refine Wp.reg ?_
  refine Sq.v (r_load (i := 0) (Lens.id T_api_Schema) (r := y2.1) ty33 (look_t rfl) rfl rfl rfl) rfl rfl rfl ?_
  refine Sq.v (r_move (look_t rfl)) rfl rfl rfl ?_
  obtain ⟨y3, hy3, h⟩ := bind_some h
  refine Sq.v (r_call en21 (C_law20_play hy3) ⟨look_t rfl, look_t rfl, trivial⟩) rfl rfl rfl ?_
  refine Sq.alloc zr40 rfl fun p2 => ?_
  refine Sq.store (i := 0) (Lens.id T_session_State) (v := (y3 : T_session_State)) (b' := (y3 : T_session_State)) ty40 (look_t rfl) (look_t rfl) rfl rfl rfl ?_
  refine Sq.nil ?_
  refine To.next ?_
  refine Wp.seq ?_
  refine Wp.reg ?_
  refine Sq.v (r_bsl (r := ([1, 2, 7] : List Int)) Try.underlying64 ty3 zr3 rfl rfl (.cons (by simp) (look_int 1) (.cons (by simp) (look_int 2) (.cons (by simp) (look_int 7) (.nil))))) rfl rfl rfl ?_
  refine Sq.v (r_move (look_t rfl)) rfl rfl rfl ?_
  obtain ⟨y4, hy4, h⟩ := bind_some h
  refine Sq.v (r_call en22 (C_mcase_Mod hy4) ⟨look_t rfl, look_int 3, trivial⟩) rfl rfl rfl ?_
  obtain ⟨k1, hk1, h⟩ := bind_some h
  refine Sq.v (r_ias (k := k1) Try.underlying64 ty3 (look_t rfl) (look_t rfl) (idx_some hk1)) rfl rfl rfl ?_
  refine Sq.v (r_loadp ty3 (look_t rfl)) rfl rfl rfl ?_
  refine Sq.v (r_asg (look_t rfl)) rfl rfl rfl ?_
  refine Sq.nil ?_
  refine To.next ?_
  refine Wp.seq ?_
  refine Wp.reg ?_
  refine Sq.v (r_asg (look_u64 0 rfl)) rfl rfl rfl ?_
  refine Sq.nil ?_
  refine To.next ?_
  refine Wp.seq ?_
  refine Wp.seq ?_
  refine Wp.reg ?_
  refine Sq.v (r_fa fd40_1 (look_t rfl)) rfl rfl rfl ?_
  refine Sq.v (r_load (i := 0) ((Lens.id T_session_State).comp le_T_session_State_Tops) (r := y3.f_Tops) ty38 (look_t rfl) rfl rfl rfl) rfl rfl rfl ?_
  refine Sq.v (r_len Try.underlying38 (look_t rfl)) rfl rfl rfl ?_
  refine Sq.v (r_move (look_int 0)) rfl rfl rfl ?_
  refine Sq.nil ?_
  refine To.next ?_
  refine Wp.block ?_
  obtain ⟨e1, hl, h⟩ := bind_some h
  refine Wp.loopG (σ := (BitVec 64) × Int) (ε := ((BitVec 64) × Int × Bool)) (γ := Unit) (δ := Unit) hl (fun s1 g1 => [(0, VP.of (x0)), (1, VP.of (x1)), (2, VP.of (x2)), (3, VP.of (x3)), (4, VP.of (x4)), (10, VP.of (false)), (11, VP.eq (.pointer (some ⟨p1, 0, none⟩))), (12, VP.eq (.pointer (some ⟨p2, 0, none⟩))), (13, VP.of (lget ([1, 2, 7] : List Int) k1)), (14, VP.of (s1.1)), (38, VP.of (y3.f_Tops)), (39, VP.of (y3.f_Tops.length : Int)), (40, VP.of (s1.2))]) (fun s1 g1 => [⟨some p2, .var (y3 : T_session_State)⟩, ⟨some p1, .var (y2.1 : T_api_Schema)⟩, ⟨some q1, .var (y2.2 : T_mcase_Codes)⟩]) (fun q3 => Exit.exit 0) (fun q3 g1 => [(0, VP.of (x0)), (1, VP.of (x1)), (2, VP.of (x2)), (3, VP.of (x3)), (4, VP.of (x4)), (10, VP.of (false)), (11, VP.eq (.pointer (some ⟨p1, 0, none⟩))), (12, VP.eq (.pointer (some ⟨p2, 0, none⟩))), (13, VP.of (lget ([1, 2, 7] : List Int) k1)), (14, VP.of (q3.1)), (38, VP.of (y3.f_Tops)), (39, VP.of (y3.f_Tops.length : Int)), (40, VP.of (q3.2.1)), (41, VP.of (q3.2.2))]) (fun q3 g1 => [⟨some p2, .var (y3 : T_session_State)⟩, ⟨some p1, .var (y2.1 : T_api_Schema)⟩, ⟨some q1, .var (y2.2 : T_mcase_Codes)⟩]) () rfl (.same rfl (.same rfl (.same rfl (.same rfl (.same rfl (.same rfl (.same rfl (.same rfl (.same rfl (.same rfl (.same rfl (.same rfl (.same rfl .nil))))))))))))) (fun s1 r h g1 => ?_) (fun g1 => ?_)
  · clear hl
    refine Wp.seq ?_
    refine Wp.reg ?_
    refine Sq.v (r_lss (look_t rfl) (look_t rfl)) rfl rfl rfl ?_
    refine Sq.nil ?_
    refine To.next ?_
    refine Wp.seq ?_
    refine Wp.cond (look_t rfl) (fun hc => ?_) (fun hc => ?_)
    · replace h := cond_t hc h
      refine Wp.skip ?_
      refine To.next ?_
      refine Wp.seq ?_
      refine Wp.block ?_
      refine Wp.seq ?_
      refine Wp.reg ?_
      obtain ⟨k2, hk2, h⟩ := bind_some h
      refine Sq.v (r_ias (k := k2) Try.underlying38 ty67 (look_t rfl) (look_t rfl) (idx_some hk2)) rfl rfl rfl ?_
      refine Sq.v (r_loadp ty67 (look_t rfl)) rfl rfl rfl ?_
      refine Sq.alloc zr67 rfl fun p3 => ?_
      refine Sq.store (i := 0) (Lens.id T_session_Top) (v := (lget y3.f_Tops k2 : T_session_Top)) (b' := (lget y3.f_Tops k2 : T_session_Top)) ty67 (look_t rfl) (look_t rfl) rfl rfl rfl ?_
      refine Sq.nil ?_
      refine To.next ?_
      refine Wp.seq ?_
      refine Wp.reg ?_
      refine Sq.v (r_fa fd67_0 (look_t rfl)) rfl rfl rfl ?_
      refine Sq.v (r_load (i := 0) ((Lens.id T_session_Top).comp le_T_session_Top_Role) (r := (lget y3.f_Tops k2).f_Role) ty3 (look_t rfl) rfl rfl rfl) rfl rfl rfl ?_
      refine Sq.v (r_move (look_t rfl)) rfl rfl rfl ?_
      refine Sq.v (r_eql (look_t rfl) (look_t rfl)) rfl rfl rfl ?_
      refine Sq.nil ?_
      refine To.next ?_
      obtain ⟨m1, hm1, h⟩ := bind_some h
      refine Wp.condM (γ := Unit) (fun g2 => [(0, VP.of (x0)), (1, VP.of (x1)), (2, VP.of (x2)), (3, VP.of (x3)), (4, VP.of (x4)), (10, VP.of (false)), (11, VP.eq (.pointer (some ⟨p1, 0, none⟩))), (12, VP.eq (.pointer (some ⟨p2, 0, none⟩))), (13, VP.of (lget ([1, 2, 7] : List Int) k1)), (14, VP.of (m1)), (16, VP.eq (.pointer (some ⟨p3, 0, none⟩))), (38, VP.of (y3.f_Tops)), (39, VP.of (y3.f_Tops.length : Int)), (40, VP.of (s1.2)), (41, VP.of (decide (s1.2 < (y3.f_Tops.length : Int)))), (47, VP.of (((lget y3.f_Tops k2).f_Role) == (lget ([1, 2, 7] : List Int) k1)))]) (fun g2 => [⟨some p3, .var (lget y3.f_Tops k2 : T_session_Top)⟩, ⟨some p2, .var (y3 : T_session_State)⟩, ⟨some p1, .var (y2.1 : T_api_Schema)⟩, ⟨some q1, .var (y2.2 : T_mcase_Codes)⟩]) (look_t rfl) (fun g2 => ?_) (fun hm hc => ?_) (fun hm hc => ?_)
      · clear hm1
        refine To.bnorm ?_
        refine To.next ?_
        refine Wp.reg ?_
        refine Sq.v (r_add (look_t rfl) (look_int 1)) rfl rfl rfl ?_
        refine Sq.v (r_move (look_t rfl)) rfl rfl rfl ?_
        refine Sq.nil ?_
        replace h := some_in h
        subst h
        exact To.roundG () 1 rfl (.same rfl (.same rfl (.same rfl (.same rfl (.same rfl (.same rfl (.same rfl (.same rfl (.same rfl (.same rfl (.same rfl (.same rfl (.same rfl .nil)))))))))))))
      · have h := cond_t hc hm1
        refine Wp.reg ?_
        refine Sq.v (r_fa fd67_1 (look_t rfl)) rfl rfl rfl ?_
        refine Sq.v (r_fa fd47_1 (look_t rfl)) rfl rfl rfl ?_
        refine Sq.v (r_load (i := 0) (((Lens.id T_session_Top).comp le_T_session_Top_Election).comp le_T_api_Value_Lo) (r := ((lget y3.f_Tops k2).f_Election).f_Lo) ty45 (look_t rfl) rfl rfl rfl) rfl rfl rfl ?_
        refine Sq.v (r_asg (look_t rfl)) rfl rfl rfl ?_
        refine Sq.nil ?_
        replace h := some_in h
        subst h
        exact To.meet 0 rfl (.same rfl (.same rfl (.same rfl (.same rfl (.same rfl (.same rfl (.same rfl (.same rfl (.same rfl (.same rfl (.same rfl (.same rfl (.same rfl (.same rfl (.same rfl (.same rfl .nil)))))))))))))))) (hm ())
      · have h := cond_f hc hm1
        refine Wp.skip ?_
        replace h := some_in h
        subst h
        exact To.meet 0 rfl (.same rfl (.same rfl (.same rfl (.same rfl (.same rfl (.same rfl (.same rfl (.same rfl (.same rfl (.same rfl (.same rfl (.same rfl (.same rfl (.same rfl (.same rfl (.same rfl .nil)))))))))))))))) (hm ())
    · replace h := cond_f hc h
      refine Wp.exit ?_
      refine To.exit ?_
      replace h := some_in h
      subst h
      exact To.leaveG () 0 rfl (by simp) rfl (.same rfl (.same rfl (.same rfl (.same rfl (.same rfl (.same rfl (.same rfl (.same rfl (.same rfl (.same rfl (.same rfl (.same rfl (.same rfl (.same rfl .nil))))))))))))))
  · clear hl
    refine To.bexit ?_
    refine To.next ?_
    refine Wp.seq ?_
    refine Wp.seq ?_
    refine Wp.reg ?_
    refine Sq.v (r_asg (look_int 0)) rfl rfl rfl ?_
    refine Sq.nil ?_
    refine To.next ?_
    refine Wp.block ?_
    obtain ⟨e2, hl, h⟩ := bind_some h
    refine Wp.loopG (σ := Int × T_session_State) (ε := (Int × Bool × T_session_State)) (γ := Unit) (δ := Unit) hl (fun s2 g3 => [(0, VP.of (x0)), (1, VP.of (x1)), (2, VP.of (x2)), (3, VP.of (x3)), (4, VP.of (x4)), (10, VP.of (false)), (11, VP.eq (.pointer (some ⟨p1, 0, none⟩))), (12, VP.eq (.pointer (some ⟨p2, 0, none⟩))), (13, VP.of (lget ([1, 2, 7] : List Int) k1)), (14, VP.of (e1.1)), (17, VP.of (s2.1)), (38, VP.of (y3.f_Tops)), (39, VP.of (y3.f_Tops.length : Int)), (40, VP.of (e1.2.1)), (41, VP.of (e1.2.2))]) (fun s2 g3 => [⟨some p2, .var (s2.2 : T_session_State)⟩, ⟨some p1, .var (y2.1 : T_api_Schema)⟩, ⟨some q1, .var (y2.2 : T_mcase_Codes)⟩]) (fun q4 => Exit.exit 2) (fun q4 g3 => [(0, VP.of (x0)), (1, VP.of (x1)), (2, VP.of (x2)), (3, VP.of (x3)), (4, VP.of (x4)), (10, VP.of (false)), (11, VP.eq (.pointer (some ⟨p1, 0, none⟩))), (12, VP.eq (.pointer (some ⟨p2, 0, none⟩))), (13, VP.of (lget ([1, 2, 7] : List Int) k1)), (14, VP.of (e1.1)), (17, VP.of (q4.1)), (38, VP.of (y3.f_Tops)), (39, VP.of (y3.f_Tops.length : Int)), (40, VP.of (e1.2.1)), (41, VP.of (e1.2.2)), (53, VP.of (q4.2.1))]) (fun q4 g3 => [⟨some p2, .var (q4.2.2 : T_session_State)⟩, ⟨some p1, .var (y2.1 : T_api_Schema)⟩, ⟨some q1, .var (y2.2 : T_mcase_Codes)⟩]) () rfl (.same rfl (.same rfl (.same rfl (.same rfl (.same rfl (.same rfl (.same rfl (.same rfl (.same rfl (.same rfl (.same rfl (.same rfl (.same rfl (.same rfl (.same rfl .nil))))))))))))))) (fun s2 r h g3 => ?_) (fun g3 => ?_)
    · clear hl
      refine Wp.seq ?_
      refine Wp.seq ?_
      refine Wp.reg ?_
      refine Sq.v (r_move (look_t rfl)) rfl rfl rfl ?_
      refine Sq.v (r_lss (look_t rfl) (look_int 6)) rfl rfl rfl ?_
      refine Sq.nil ?_
      refine To.next ?_
      refine Wp.cond (look_t rfl) (fun hc => ?_) (fun hc => ?_)
      · replace h := cond_t hc h
        refine Wp.skip ?_
        refine To.next ?_
        refine Wp.seq ?_
        refine Wp.block ?_
        refine Wp.seq ?_
        refine Wp.reg ?_
        refine Sq.v (r_load (i := 0) (Lens.id T_session_State) (r := s2.2) ty40 (look_t rfl) rfl rfl rfl) rfl rfl rfl ?_
        refine Sq.v (r_move (look_t rfl)) rfl rfl rfl ?_
        obtain ⟨y5, hy5, h⟩ := bind_some h
        refine Sq.v (r_call en15 (C_session_Leave hy5) ⟨look_t rfl, look_t rfl, trivial⟩) rfl rfl rfl ?_
        refine Sq.v (r_move (look_t rfl)) rfl rfl rfl ?_
        refine Sq.v (r_ext (look_t rfl) rfl) rfl rfl rfl ?_
        refine Sq.v (r_ext (look_t rfl) rfl) rfl rfl rfl ?_
        refine Sq.alloc zr40 rfl fun p4 => ?_
        refine Sq.store (i := 0) (Lens.id T_session_State) (v := (y5.1 : T_session_State)) (b' := (y5.1 : T_session_State)) ty40 (look_t rfl) (look_t rfl) rfl rfl rfl ?_
        refine Sq.v (r_asg (look_t rfl)) rfl rfl rfl ?_
        refine Sq.nil ?_
        refine To.next ?_
        refine Wp.seq ?_
        refine Wp.reg ?_
        refine Sq.v (r_move (look_t rfl)) rfl rfl rfl ?_
        refine Sq.v (r_eql (look_t rfl) (look_int 0)) rfl rfl rfl ?_
        refine Sq.nil ?_
        refine To.next ?_
        obtain ⟨m2, hm2, h⟩ := bind_some h
        refine Wp.condM (γ := Unit) (fun g4 => [(0, VP.of (x0)), (1, VP.of (x1)), (2, VP.of (x2)), (3, VP.of (x3)), (4, VP.of (x4)), (10, VP.of (false)), (11, VP.eq (.pointer (some ⟨p1, 0, none⟩))), (12, VP.eq (.pointer (some ⟨p2, 0, none⟩))), (13, VP.of (lget ([1, 2, 7] : List Int) k1)), (14, VP.of (e1.1)), (17, VP.of (s2.1)), (18, VP.eq (.pointer (some ⟨p4, 0, none⟩))), (19, VP.of (y5.2)), (38, VP.of (y3.f_Tops)), (39, VP.of (y3.f_Tops.length : Int)), (40, VP.of (e1.2.1)), (41, VP.of (e1.2.2)), (53, VP.of (decide (s2.1 < 6))), (63, VP.of (y5.2 == 0))]) (fun g4 => [⟨some p4, .var (y5.1 : T_session_State)⟩, ⟨some p2, .var (m2 : T_session_State)⟩, ⟨some p1, .var (y2.1 : T_api_Schema)⟩, ⟨some q1, .var (y2.2 : T_mcase_Codes)⟩]) (look_t rfl) (fun g4 => ?_) (fun hm hc => ?_) (fun hm hc => ?_)
        · clear hm2
          refine To.bnorm ?_
          refine To.next ?_
          refine Wp.reg ?_
          refine Sq.v (r_move (look_t rfl)) rfl rfl rfl ?_
          refine Sq.v (r_add (look_t rfl) (look_int 1)) rfl rfl rfl ?_
          refine Sq.v (r_asg (look_t rfl)) rfl rfl rfl ?_
          refine Sq.nil ?_
          replace h := some_in h
          subst h
          exact To.roundG () 1 rfl (.same rfl (.same rfl (.same rfl (.same rfl (.same rfl (.same rfl (.same rfl (.same rfl (.same rfl (.same rfl (.same rfl (.same rfl (.same rfl (.same rfl (.same rfl .nil)))))))))))))))
        · have h := cond_t hc hm2
          refine Wp.reg ?_
          refine Sq.v (r_load (i := 0) (Lens.id T_session_State) (r := y5.1) ty40 (look_t rfl) rfl rfl rfl) rfl rfl rfl ?_
          refine Sq.store (i := 1) (Lens.id T_session_State) (v := (y5.1 : T_session_State)) (b' := (y5.1 : T_session_State)) ty40 (look_t rfl) (look_t rfl) rfl rfl rfl ?_
          refine Sq.nil ?_
          replace h := some_in h
          subst h
          exact To.meet 0 rfl (.same rfl (.same rfl (.same rfl (.same rfl (.same rfl (.same rfl (.same rfl (.same rfl (.same rfl (.same rfl (.same rfl (.same rfl (.same rfl (.same rfl (.same rfl (.same rfl (.same rfl (.same rfl (.same rfl .nil))))))))))))))))))) (hm ())
        · have h := cond_f hc hm2
          refine Wp.skip ?_
          replace h := some_in h
          subst h
          exact To.meet 0 rfl (.same rfl (.same rfl (.same rfl (.same rfl (.same rfl (.same rfl (.same rfl (.same rfl (.same rfl (.same rfl (.same rfl (.same rfl (.same rfl (.same rfl (.same rfl (.same rfl (.same rfl (.same rfl (.same rfl .nil))))))))))))))))))) (hm ())
      · replace h := cond_f hc h
        refine Wp.exit ?_
        refine To.exit ?_
        replace h := some_in h
        subst h
        exact To.leaveG () 0 rfl (by simp) rfl (.same rfl (.same rfl (.same rfl (.same rfl (.same rfl (.same rfl (.same rfl (.same rfl (.same rfl (.same rfl (.same rfl (.same rfl (.same rfl (.same rfl (.same rfl (.same rfl .nil))))))))))))))))
    · clear hl
      refine To.bexit ?_
      refine To.next ?_
      refine Wp.seq ?_
      refine Wp.seq ?_
      refine Wp.reg ?_
      refine Sq.v (r_load (i := 0) (Lens.id T_session_State) (r := e2.2.2) ty40 (look_t rfl) rfl rfl rfl) rfl rfl rfl ?_
      refine Sq.v (r_move (look_t rfl)) rfl rfl rfl ?_
      obtain ⟨y6, hy6, h⟩ := bind_some h
      refine Sq.v (r_call en23 (C_session_Primary hy6) ⟨look_t rfl, look_t rfl, trivial⟩) rfl rfl rfl ?_
      refine Sq.v (r_move (look_t rfl)) rfl rfl rfl ?_
      refine Sq.v (r_ext (look_t rfl) rfl) rfl rfl rfl ?_
      refine Sq.v (r_ext (look_t rfl) rfl) rfl rfl rfl ?_
      refine Sq.v (r_asg (look_t rfl)) rfl rfl rfl ?_
      refine Sq.v (r_asg (look_t rfl)) rfl rfl rfl ?_
      refine Sq.nil ?_
      refine To.next ?_
      refine Wp.seq ?_
      refine Wp.reg ?_
      refine Sq.v (r_move (look_t rfl)) rfl rfl rfl ?_
      refine Sq.v (r_move (look_t rfl)) rfl rfl rfl ?_
      refine Sq.g (fun hb => r_fa fd40_0 (look_t rfl)) rfl rfl rfl rfl rfl ?_
      refine Sq.g (fun hb => r_load (i := 0) ((Lens.id T_session_State).comp le_T_session_State_Sessions) (r := e2.2.2.f_Sessions) ty37 (look_tc rfl hb) rfl rfl rfl) rfl rfl rfl rfl rfl ?_
      refine Sq.g (fun hb => r_len Try.underlying37 (look_tc rfl hb)) rfl rfl rfl rfl rfl ?_
      refine Sq.g (fun hb => r_neq (look_tc rfl hb) (look_int 0)) rfl rfl rfl rfl rfl ?_
      refine Sq.v (r_or (look_t rfl) (look_t rfl) (fun h => h)) rfl rfl rfl ?_
      refine Sq.nil ?_
      refine To.next ?_
      refine Wp.cond (look_t rfl) (fun hc => ?_) (fun hc => ?_)
      · replace h := cond_t hc h
        refine Wp.seq ?_
        refine Wp.reg ?_
        refine Sq.v (r_asg (look_bool false)) rfl rfl rfl ?_
        refine Sq.nil ?_
        refine To.next ?_
        refine Wp.ret ?_
        refine To.ret ?_
        replace h := some_in h
        subst h
        exact To.end1 rfl (rv_t rfl)
      · replace h := cond_f hc h
        refine Wp.skip ?_
        refine To.next ?_
        refine Wp.seq ?_
        refine Wp.reg ?_
        refine Sq.v (r_move (look_t rfl)) rfl rfl rfl ?_
        obtain ⟨y7, hy7, h⟩ := bind_some h
        refine Sq.v (r_rem8 (look_t rfl) (look_u8 8 rfl) (uremM_some hy7)) rfl rfl rfl ?_
        refine Sq.v (r_c8_64 Try.underlying5 Try.underlying45 (look_t rfl)) rfl rfl rfl ?_
        refine Sq.v (r_add64 (look_t rfl) (look_u64 1 rfl)) rfl rfl rfl ?_
        refine Sq.v (r_asg (look_t rfl)) rfl rfl rfl ?_
        refine Sq.nil ?_
        refine To.next ?_
        refine Wp.seq ?_
        obtain ⟨y8, hy8, h⟩ := bind_some h
        obtain ⟨z1, hz1, h⟩ := bind_some h
        obtain ⟨y9, hy9, h⟩ := bind_some h
        refine Wp.draw mixed 15 [some 83, some 84, some 85, some 86, some 87, some 88, some 89, some 90, some 82, some 91, some 92, some 93, some 23, none, some 24] [[], [], [], [2], [], [], [5], [0, 1, 3, 4, 6], [7], [8], [8], [8], [], [9, 12], [10]] [.val (VP.of (e2.2.2)), .val (VP.of (y2.1)), .val (VP.of (x2)), .val (VP.of (y8)), .val (VP.of (lget ([1, 2, 7] : List Int) k1)), .val (VP.of ((y7.setWidth 64) + (1#64))), .val (VP.of (z1)), .val (VP.tup [VP.of (y9.1), VP.of (y9.2.1), VP.of (y9.2.2)]), .val (VP.tup [VP.of (y9.1), VP.of (y9.2.1), VP.of (y9.2.2)]), .val (VP.of (y9.1)), .val (VP.of (y9.2.1)), .val (VP.of (y9.2.2)), .new (.var (default : T_session_State)), .stn 12 (.var (y9.1 : T_session_State)), .val (VP.of (y9.2.1))] [false, false, false, false, false, false, false, false, false, false, false, false, false, true, false] (by kernel_rfl) rfl rfl rfl (fun ps1 => ⟨fun L' hL => HO.v (r_load (i := 0) (Lens.id T_session_State) (r := e2.2.2) ty40 (look_t rfl) (hL _ _ rfl (by kernel_rfl)) rfl rfl) rfl, fun L' hL => HO.v (r_load (i := 1) (Lens.id T_api_Schema) (r := y2.1) ty33 (look_t rfl) (hL _ _ rfl (by kernel_rfl)) rfl rfl) rfl, fun L' hL => HO.v (r_move (look_t rfl)) rfl, fun L' hL => HO.v (r_call en22 (C_mcase_Mod hy8) ⟨look_t rfl, look_int 6, trivial⟩) rfl, fun L' hL => HO.v (r_move (look_t rfl)) rfl, fun L' hL => HO.v (r_move (look_t rfl)) rfl, fun L' hL => HO.v ((r_build (b := ({ (default : T_api_Value) with f_Lo := (y7.setWidth 64) + (1#64) } : T_api_Value)) rfl bu47 zr47 (.cons le_T_api_Value_Lo rfl (look_t rfl) rfl (.nil))).as (some_in hz1)) rfl, fun L' hL => HO.v (r_call en17 (C_session_Arbitrate hy9) ⟨look_t rfl, look_t rfl, look_t rfl, look_t rfl, look_t rfl, trivial⟩) rfl, fun L' hL => HO.v (r_move (look_t rfl)) rfl, fun L' hL => HO.v (r_ext (look_t rfl) rfl) rfl, fun L' hL => HO.v (r_ext (look_t rfl) rfl) rfl, fun L' hL => HO.v (r_ext (look_t rfl) rfl) rfl, ao_alloc zr40, ⟨rfl, _, rfl, fun L' q hq => so_var (i := q) (Lens.id T_session_State) (v := (y9.1 : T_session_State)) (b' := (y9.1 : T_session_State)) ty40 (look_t rfl) (look_t rfl) hq rfl rfl⟩, fun L' hL => HO.v (r_asg (look_t rfl)) rfl, trivial⟩) fun ps1 => ?_
        refine Sq.v (r_asg (look_t rfl)) rfl rfl rfl ?_
        refine Sq.nil ?_
        refine To.next ?_
        refine Wp.seq ?_
        refine Wp.reg ?_
        refine Sq.v (r_move (look_t rfl)) rfl rfl rfl ?_
        refine Sq.v (r_eql (look_t rfl) (look_int 0)) rfl rfl rfl ?_
        refine Sq.v (r_move (look_t rfl)) rfl rfl rfl ?_
        refine Sq.g (fun hb => r_move (look_t rfl)) rfl rfl rfl rfl rfl ?_
        refine Sq.g (fun hb => r_move (look_t rfl)) rfl rfl rfl rfl rfl ?_
        refine Sq.g (fun hb => r_move (look_t rfl)) rfl rfl rfl rfl rfl ?_
        refine Sq.g (fun hb => r_geq64 (look_tc rfl hb) (look_tc rfl hb)) rfl rfl rfl rfl rfl ?_
        refine Sq.g (fun hb => r_beq Try.underlying4 (look_tc rfl hb) (look_tc rfl hb)) rfl rfl rfl rfl rfl ?_
        obtain ⟨z2, hz2, h⟩ := bind_some h
        refine Sq.v ((r_and (look_t rfl) (look_t rfl) (fun h => h)).as (some_in hz2)) rfl rfl rfl ?_
        refine Sq.v (r_move (look_t rfl)) rfl rfl rfl ?_
        obtain ⟨y10, hy10, h⟩ := bind_some h
        refine Sq.g (fun hb => r_call en20 (C_law20_begun (condM_some hy10 hb)) trivial) rfl rfl rfl rfl rfl ?_
        refine Sq.v (r_and (look_t rfl) (look_t rfl) (fun h => h)) rfl rfl rfl ?_
        refine Sq.v (r_asg (look_t rfl)) rfl rfl rfl ?_
        refine Sq.nil ?_
        refine To.next ?_
        refine Wp.ret ?_
        replace h := some_in h
        subst h
        exact To.end1 rfl (rv_t rfl)
set_option maxHeartbeats 2000000 in
theorem C_law20_SessionOne {x0 : List (BitVec 8)} {x1 : List T_law20_Op} {x2 : Int}  {r : Bool} (h : L_law20_SessionOne x0 x1 x2 = some r) : Meets Try.prog 6 [VP.of (x0), VP.of (x1), VP.of (x2)] (VP.of (r)) := by
  unfold L_law20_SessionOne at h
  refine Meets.of Try.func6 rfl Try.ntmps6 rfl fun W A => ?_
  refine Wp.seq ?_
  refine Wp.reg ?_
  refine Sq.v (r_asg (look_bool false)) rfl rfl rfl ?_
  refine Sq.nil ?_
  refine To.next ?_
  refine Wp.seq ?_
  refine Wp.reg ?_
  refine Sq.v (r_move (look_t rfl)) rfl rfl rfl ?_
  obtain ⟨y1, hy1, h⟩ := bind_some h
  refine Sq.callO (Lin := []) (Lr := []) en12 (C_mcase_New hy1) ⟨look_t rfl, look_int 120, trivial⟩ rfl fun q1 => ?_
  refine Sq.bring 0 rfl ?_
  obtain ⟨y2, hy2, h⟩ := bind_some h
  refine Sq.callO (Lin := [⟨some q1, .var (y1 : T_mcase_Codes)⟩]) (Lr := []) en13 (C_mcase_Codes_Schema hy2) ⟨look_t rfl, trivial⟩ rfl fun q2 => ?_
  refine Sq.alloc zr33 rfl fun p1 => ?_
  refine Sq.store (i := 0) (Lens.id T_api_Schema) (v := (y2.1 : T_api_Schema)) (b' := (y2.1 : T_api_Schema)) ty33 (look_t rfl) (look_t rfl) rfl rfl rfl ?_
  refine Sq.nil ?_
  refine To.next ?_
  refine Wp.seq ?_
  refine Wp.reg ?_
  refine Sq.v (r_load (i := 0) (Lens.id T_api_Schema) (r := y2.1) ty33 (look_t rfl) rfl rfl rfl) rfl rfl rfl ?_
  refine Sq.v (r_move (look_t rfl)) rfl rfl rfl ?_
  obtain ⟨y3, hy3, h⟩ := bind_some h
  refine Sq.v (r_call en21 (C_law20_play hy3) ⟨look_t rfl, look_t rfl, trivial⟩) rfl rfl rfl ?_
  refine Sq.alloc zr40 rfl fun p2 => ?_
  refine Sq.store (i := 0) (Lens.id T_session_State) (v := (y3 : T_session_State)) (b' := (y3 : T_session_State)) ty40 (look_t rfl) (look_t rfl) rfl rfl rfl ?_
  refine Sq.nil ?_
  refine To.next ?_
  refine Wp.seq ?_
  refine Wp.reg ?_
  refine Sq.v (r_bsl (r := ([1, 2, 7] : List Int)) Try.underlying64 ty3 zr3 rfl rfl (.cons (by simp) (look_int 1) (.cons (by simp) (look_int 2) (.cons (by simp) (look_int 7) (.nil))))) rfl rfl rfl ?_
  refine Sq.v (r_move (look_t rfl)) rfl rfl rfl ?_
  obtain ⟨y4, hy4, h⟩ := bind_some h
  refine Sq.v (r_call en22 (C_mcase_Mod hy4) ⟨look_t rfl, look_int 3, trivial⟩) rfl rfl rfl ?_
  obtain ⟨k1, hk1, h⟩ := bind_some h
  refine Sq.v (r_ias (k := k1) Try.underlying64 ty3 (look_t rfl) (look_t rfl) (idx_some hk1)) rfl rfl rfl ?_
  refine Sq.v (r_loadp ty3 (look_t rfl)) rfl rfl rfl ?_
  refine Sq.v (r_asg (look_t rfl)) rfl rfl rfl ?_
  refine Sq.nil ?_
  refine To.next ?_
  refine Wp.seq ?_
  refine Wp.reg ?_
  refine Sq.v (r_asg (look_int 0)) rfl rfl rfl ?_
  refine Sq.nil ?_
  refine To.next ?_
  refine Wp.seq ?_
  refine Wp.seq ?_
  refine Wp.reg ?_
  refine Sq.v (r_asg (look_int (-1))) rfl rfl rfl ?_
  refine Sq.nil ?_
  refine To.next ?_
  refine Wp.block ?_
  obtain ⟨e1, hl, h⟩ := bind_some h
  refine Wp.loopG (σ := Int × Int) (ε := (Int × Int × Bool) ⊕ (Int × Int × Bool × Int × Int × Bool × Bool × Bool × Bool × Bool)) (γ := Unit) (δ := Unit) hl (fun s1 g1 => [(0, VP.of (x0)), (1, VP.of (x1)), (2, VP.of (x2)), (6, VP.of (false)), (7, VP.eq (.pointer (some ⟨p1, 0, none⟩))), (8, VP.eq (.pointer (some ⟨p2, 0, none⟩))), (9, VP.of (lget ([1, 2, 7] : List Int) k1)), (10, VP.of (s1.1)), (11, VP.of (s1.2))]) (fun s1 g1 => [⟨some p2, .var (y3 : T_session_State)⟩, ⟨some p1, .var (y2.1 : T_api_Schema)⟩, ⟨some q1, .var (y2.2 : T_mcase_Codes)⟩]) (fun q3 => Sum.elim (fun q3 => Exit.exit 0) (fun q3 => Exit.ret) q3) (fun q3 g1 => Sum.elim (fun q3 => [(0, VP.of (x0)), (1, VP.of (x1)), (2, VP.of (x2)), (6, VP.of (false)), (7, VP.eq (.pointer (some ⟨p1, 0, none⟩))), (8, VP.eq (.pointer (some ⟨p2, 0, none⟩))), (9, VP.of (lget ([1, 2, 7] : List Int) k1)), (10, VP.of (q3.1)), (11, VP.of (q3.2.1)), (30, VP.of (q3.2.2))]) (fun q3 => [(0, VP.of (x0)), (1, VP.of (x1)), (2, VP.of (x2)), (6, VP.of (false)), (7, VP.eq (.pointer (some ⟨p1, 0, none⟩))), (8, VP.eq (.pointer (some ⟨p2, 0, none⟩))), (9, VP.of (lget ([1, 2, 7] : List Int) k1)), (10, VP.of (q3.1)), (11, VP.of (q3.2.1)), (12, VP.of (q3.2.2.1)), (13, VP.of (q3.2.2.2.1)), (14, VP.of (q3.2.2.2.2.1)), (15, VP.of (q3.2.2.2.2.2.1)), (30, VP.of (q3.2.2.2.2.2.2.1)), (34, VP.of (q3.2.2.2.2.2.2.2.1)), (48, VP.of (q3.2.2.2.2.2.2.2.2.1)), (63, VP.of (q3.2.2.2.2.2.2.2.2.2))]) q3) (fun q3 g1 => Sum.elim (fun q3 => [⟨some p2, .var (y3 : T_session_State)⟩, ⟨some p1, .var (y2.1 : T_api_Schema)⟩, ⟨some q1, .var (y2.2 : T_mcase_Codes)⟩]) (fun q3 => [⟨some p2, .var (y3 : T_session_State)⟩, ⟨some p1, .var (y2.1 : T_api_Schema)⟩, ⟨some q1, .var (y2.2 : T_mcase_Codes)⟩]) q3) () rfl (.same rfl (.same rfl (.same rfl (.same rfl (.same rfl (.same rfl (.same rfl (.same rfl (.same rfl .nil))))))))) (fun s1 r h g1 => ?_) (fun g1 => ?_)
  · clear hl
    refine Wp.seq ?_
    refine Wp.seq ?_
    refine Wp.reg ?_
    refine Sq.v (r_move (look_t rfl)) rfl rfl rfl ?_
    refine Sq.v (r_leq (look_t rfl) (look_int 6)) rfl rfl rfl ?_
    refine Sq.nil ?_
    refine To.next ?_
    refine Wp.cond (look_t rfl) (fun hc => ?_) (fun hc => ?_)
    · replace h := cond_t hc h
      refine Wp.skip ?_
      refine To.next ?_
      refine Wp.seq ?_
      refine Wp.block ?_
      refine Wp.seq ?_
      refine Wp.reg ?_
      refine Sq.v (r_asg (look_bool false)) rfl rfl rfl ?_
      refine Sq.nil ?_
      refine To.next ?_
      refine Wp.seq ?_
      refine Wp.seq ?_
      refine Wp.reg ?_
      refine Sq.v (r_asg (look_int 0)) rfl rfl rfl ?_
      refine Sq.nil ?_
      refine To.next ?_
      refine Wp.block ?_
      obtain ⟨e2, hl, h⟩ := bind_some h
      refine Wp.loopG (σ := Bool × Int) (ε := (Bool × Int × Bool)) (γ := Unit) (δ := Unit) hl (fun s2 g2 => [(0, VP.of (x0)), (1, VP.of (x1)), (2, VP.of (x2)), (6, VP.of (false)), (7, VP.eq (.pointer (some ⟨p1, 0, none⟩))), (8, VP.eq (.pointer (some ⟨p2, 0, none⟩))), (9, VP.of (lget ([1, 2, 7] : List Int) k1)), (10, VP.of (s1.1)), (11, VP.of (s1.2)), (12, VP.of (s2.1)), (13, VP.of (s2.2)), (30, VP.of (decide (s1.2 ≤ 6)))]) (fun s2 g2 => [⟨some p2, .var (y3 : T_session_State)⟩, ⟨some p1, .var (y2.1 : T_api_Schema)⟩, ⟨some q1, .var (y2.2 : T_mcase_Codes)⟩]) (fun q4 => Exit.exit 2) (fun q4 g2 => [(0, VP.of (x0)), (1, VP.of (x1)), (2, VP.of (x2)), (6, VP.of (false)), (7, VP.eq (.pointer (some ⟨p1, 0, none⟩))), (8, VP.eq (.pointer (some ⟨p2, 0, none⟩))), (9, VP.of (lget ([1, 2, 7] : List Int) k1)), (10, VP.of (s1.1)), (11, VP.of (s1.2)), (12, VP.of (q4.1)), (13, VP.of (q4.2.1)), (30, VP.of (decide (s1.2 ≤ 6))), (34, VP.of (q4.2.2))]) (fun q4 g2 => [⟨some p2, .var (y3 : T_session_State)⟩, ⟨some p1, .var (y2.1 : T_api_Schema)⟩, ⟨some q1, .var (y2.2 : T_mcase_Codes)⟩]) () rfl (.same rfl (.same rfl (.same rfl (.same rfl (.same rfl (.same rfl (.same rfl (.same rfl (.same rfl (.same rfl (.same rfl (.same rfl .nil)))))))))))) (fun s2 r h g2 => ?_) (fun g2 => ?_)
      · clear hl
        refine Wp.seq ?_
        refine Wp.seq ?_
        refine Wp.reg ?_
        refine Sq.v (r_move (look_t rfl)) rfl rfl rfl ?_
        refine Sq.v (r_lss (look_t rfl) (look_int 8)) rfl rfl rfl ?_
        refine Sq.nil ?_
        refine To.next ?_
        refine Wp.cond (look_t rfl) (fun hc => ?_) (fun hc => ?_)
        · replace h := cond_t hc h
          refine Wp.skip ?_
          refine To.next ?_
          refine Wp.seq ?_
          refine Wp.block ?_
          refine Wp.reg ?_
          refine Sq.v (r_move (look_t rfl)) rfl rfl rfl ?_
          refine Sq.v (r_move (look_t rfl)) rfl rfl rfl ?_
          refine Sq.g (fun hb => r_load (i := 0) (Lens.id T_session_State) (r := y3) ty40 (look_t rfl) rfl rfl rfl) rfl rfl rfl rfl rfl ?_
          refine Sq.g (fun hb => r_move (look_t rfl)) rfl rfl rfl rfl rfl ?_
          refine Sq.g (fun hb => r_move (look_t rfl)) rfl rfl rfl rfl rfl ?_
          refine Sq.g (fun hb => r_move (look_t rfl)) rfl rfl rfl rfl rfl ?_
          refine Sq.g (fun hb => r_ci64 Try.underlying3 Try.underlying45 (look_tc rfl hb)) rfl rfl rfl rfl rfl ?_
          refine Sq.g (fun hb => r_build (b := ({ (default : T_api_Value) with f_Lo := BitVec.ofInt 64 s2.2 } : T_api_Value)) rfl bu47 zr47 (.cons le_T_api_Value_Lo rfl (look_tc rfl hb) rfl (.nil))) rfl rfl rfl rfl rfl ?_
          obtain ⟨y5, hy5, h⟩ := bind_some h
          refine Sq.g (fun hb => r_call en25 (C_session_Allow (condM_some hy5 hb)) ⟨look_tc rfl hb, look_tc rfl hb, look_tc rfl hb, look_tc rfl hb, trivial⟩) rfl rfl rfl rfl rfl ?_
          refine Sq.g (fun hb => r_eql (look_tc rfl hb) (look_int 0)) rfl rfl rfl rfl rfl ?_
          refine Sq.v (r_or (look_t rfl) (look_t rfl) (fun h => h)) rfl rfl rfl ?_
          refine Sq.v (r_asg (look_t rfl)) rfl rfl rfl ?_
          refine Sq.nil ?_
          refine To.bnorm ?_
          refine To.next ?_
          refine Wp.reg ?_
          refine Sq.v (r_move (look_t rfl)) rfl rfl rfl ?_
          refine Sq.v (r_add (look_t rfl) (look_int 1)) rfl rfl rfl ?_
          refine Sq.v (r_asg (look_t rfl)) rfl rfl rfl ?_
          refine Sq.nil ?_
          replace h := some_in h
          subst h
          exact To.roundG () 0 rfl (.same rfl (.same rfl (.same rfl (.same rfl (.same rfl (.same rfl (.same rfl (.same rfl (.same rfl (.same rfl (.same rfl (.same rfl .nil))))))))))))
        · replace h := cond_f hc h
          refine Wp.exit ?_
          refine To.exit ?_
          replace h := some_in h
          subst h
          exact To.leaveG () 0 rfl (by simp) rfl (.same rfl (.same rfl (.same rfl (.same rfl (.same rfl (.same rfl (.same rfl (.same rfl (.same rfl (.same rfl (.same rfl (.same rfl (.same rfl .nil)))))))))))))
      · clear hl
        refine To.bexit ?_
        refine To.next ?_
        refine Wp.seq ?_
        refine Wp.reg ?_
        refine Sq.v (r_move (look_t rfl)) rfl rfl rfl ?_
        refine Sq.nil ?_
        refine To.next ?_
        refine Wp.cond (look_t rfl) (fun hc => ?_) (fun hc => ?_)
        · replace h := cond_t hc h
          refine Wp.seq ?_
          refine Wp.reg ?_
          refine Sq.v (r_move (look_t rfl)) rfl rfl rfl ?_
          refine Sq.v (r_add (look_t rfl) (look_int 1)) rfl rfl rfl ?_
          refine Sq.v (r_asg (look_t rfl)) rfl rfl rfl ?_
          refine Sq.nil ?_
          refine To.next ?_
          refine Wp.seq ?_
          refine Wp.reg ?_
          refine Sq.v (r_load (i := 0) (Lens.id T_session_State) (r := y3) ty40 (look_t rfl) rfl rfl rfl) rfl rfl rfl ?_
          refine Sq.v (r_move (look_t rfl)) rfl rfl rfl ?_
          obtain ⟨y6, hy6, h⟩ := bind_some h
          refine Sq.v (r_call en23 (C_session_Primary hy6) ⟨look_t rfl, look_t rfl, trivial⟩) rfl rfl rfl ?_
          refine Sq.v (r_move (look_t rfl)) rfl rfl rfl ?_
          refine Sq.v (r_ext (look_t rfl) rfl) rfl rfl rfl ?_
          refine Sq.v (r_ext (look_t rfl) rfl) rfl rfl rfl ?_
          refine Sq.v (r_asg (look_t rfl)) rfl rfl rfl ?_
          refine Sq.v (r_asg (look_t rfl)) rfl rfl rfl ?_
          refine Sq.nil ?_
          refine To.next ?_
          refine Wp.seq ?_
          refine Wp.reg ?_
          refine Sq.v (r_move (look_t rfl)) rfl rfl rfl ?_
          refine Sq.v (r_not (look_t rfl)) rfl rfl rfl ?_
          refine Sq.v (r_move (look_t rfl)) rfl rfl rfl ?_
          refine Sq.g (fun hb => r_move (look_t rfl)) rfl rfl rfl rfl rfl ?_
          refine Sq.g (fun hb => r_move (look_t rfl)) rfl rfl rfl rfl rfl ?_
          refine Sq.g (fun hb => r_neq (look_tc rfl hb) (look_tc rfl hb)) rfl rfl rfl rfl rfl ?_
          refine Sq.v (r_or (look_t rfl) (look_t rfl) (fun h => h)) rfl rfl rfl ?_
          refine Sq.nil ?_
          refine To.next ?_
          refine Wp.cond (look_t rfl) (fun hc => ?_) (fun hc => ?_)
          · replace h := cond_t hc h
            refine Wp.seq ?_
            refine Wp.reg ?_
            refine Sq.v (r_asg (look_bool false)) rfl rfl rfl ?_
            refine Sq.nil ?_
            refine To.next ?_
            refine Wp.ret ?_
            refine To.bret ?_
            refine To.ret ?_
            replace h := some_in h
            subst h
            exact To.leaveG () 0 rfl (by simp) rfl (.same rfl (.same rfl (.same rfl (.same rfl (.same rfl (.same rfl (.same rfl (.same rfl (.same rfl (.same rfl (.same rfl (.same rfl (.same rfl (.same rfl (.same rfl (.same rfl (.same rfl .nil)))))))))))))))))
          · replace h := cond_f hc h
            refine Wp.skip ?_
            refine To.bnorm ?_
            refine To.next ?_
            refine Wp.reg ?_
            refine Sq.v (r_move (look_t rfl)) rfl rfl rfl ?_
            refine Sq.v (r_add (look_t rfl) (look_int 1)) rfl rfl rfl ?_
            refine Sq.v (r_asg (look_t rfl)) rfl rfl rfl ?_
            refine Sq.nil ?_
            replace h := some_in h
            subst h
            exact To.roundG () 0 rfl (.same rfl (.same rfl (.same rfl (.same rfl (.same rfl (.same rfl (.same rfl (.same rfl (.same rfl .nil)))))))))
        · replace h := cond_f hc h
          refine Wp.skip ?_
          refine To.bnorm ?_
          refine To.next ?_
          refine Wp.reg ?_
          refine Sq.v (r_move (look_t rfl)) rfl rfl rfl ?_
          refine Sq.v (r_add (look_t rfl) (look_int 1)) rfl rfl rfl ?_
          refine Sq.v (r_asg (look_t rfl)) rfl rfl rfl ?_
          refine Sq.nil ?_
          replace h := some_in h
          subst h
          exact To.roundG () 0 rfl (.same rfl (.same rfl (.same rfl (.same rfl (.same rfl (.same rfl (.same rfl (.same rfl (.same rfl .nil)))))))))
    · replace h := cond_f hc h
      refine Wp.exit ?_
      refine To.exit ?_
      replace h := some_in h
      subst h
      exact To.leaveG () 0 rfl (by simp) rfl (.same rfl (.same rfl (.same rfl (.same rfl (.same rfl (.same rfl (.same rfl (.same rfl (.same rfl (.same rfl .nil))))))))))
  · clear hl
    rcases e1 with e1 | e1
    · simp only [Sum.elim_inl] at h
      refine To.bexit ?_
      refine To.next ?_
      refine Wp.seq ?_
      refine Wp.reg ?_
      refine Sq.v (r_load (i := 0) (Lens.id T_session_State) (r := y3) ty40 (look_t rfl) rfl rfl rfl) rfl rfl rfl ?_
      refine Sq.v (r_move (look_t rfl)) rfl rfl rfl ?_
      obtain ⟨y7, hy7, h⟩ := bind_some h
      refine Sq.v (r_call en23 (C_session_Primary hy7) ⟨look_t rfl, look_t rfl, trivial⟩) rfl rfl rfl ?_
      refine Sq.v (r_move (look_t rfl)) rfl rfl rfl ?_
      refine Sq.v (r_ext (look_t rfl) rfl) rfl rfl rfl ?_
      refine Sq.v (r_ext (look_t rfl) rfl) rfl rfl rfl ?_
      refine Sq.v (r_asg (look_t rfl)) rfl rfl rfl ?_
      refine Sq.v (r_asg (look_t rfl)) rfl rfl rfl ?_
      refine Sq.nil ?_
      refine To.next ?_
      refine Wp.seq ?_
      refine Wp.reg ?_
      refine Sq.v (r_move (look_t rfl)) rfl rfl rfl ?_
      refine Sq.v (r_leq (look_t rfl) (look_int 1)) rfl rfl rfl ?_
      refine Sq.v (r_move (look_t rfl)) rfl rfl rfl ?_
      refine Sq.g (fun hb => r_move (look_t rfl)) rfl rfl rfl rfl rfl ?_
      refine Sq.g (fun hb => r_move (look_t rfl)) rfl rfl rfl rfl rfl ?_
      refine Sq.g (fun hb => r_eql (look_tc rfl hb) (look_int 1)) rfl rfl rfl rfl rfl ?_
      refine Sq.g (fun hb => r_beq Try.underlying4 (look_tc rfl hb) (look_tc rfl hb)) rfl rfl rfl rfl rfl ?_
      refine Sq.v (r_and (look_t rfl) (look_t rfl) (fun h => h)) rfl rfl rfl ?_
      refine Sq.v (r_move (look_t rfl)) rfl rfl rfl ?_
      obtain ⟨y8, hy8, h⟩ := bind_some h
      refine Sq.g (fun hb => r_call en20 (C_law20_begun (condM_some hy8 hb)) trivial) rfl rfl rfl rfl rfl ?_
      refine Sq.v (r_and (look_t rfl) (look_t rfl) (fun h => h)) rfl rfl rfl ?_
      refine Sq.v (r_asg (look_t rfl)) rfl rfl rfl ?_
      refine Sq.nil ?_
      refine To.next ?_
      refine Wp.ret ?_
      replace h := some_in h
      subst h
      exact To.end1 rfl (rv_t rfl)
    · simp only [Sum.elim_inr] at h
      refine To.bret ?_
      refine To.ret ?_
      replace h := some_in h
      subst h
      exact To.end1 rfl (rv_t rfl)
end Go.Proofs.Ytodajdohokmjnaa
