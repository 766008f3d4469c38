/-
  Printed by the decompiler (dec.py) out of the seat's translation. Each function meets its functional program. Conditions: none.
-/
import Derived.Test.YtodajdohokmjnaaDc0
namespace Go.Proofs.Ytodajdohokmjnaa
open Go Gv
set_option linter.unusedVariables false
set_option linter.unusedSimpArgs false
set_option maxRecDepth 100000
set_option maxHeartbeats 2000000 in
theorem C_law20_same {x0 : T_session_State} {x1 : T_ref20_State}  {r : Bool} (h : L_law20_same x0 x1 = some r) : Meets Try.prog 19 [VP.of (x0), VP.of (x1)] (VP.of (r)) := by
  unfold L_law20_same at h
  refine Meets.of Try.func19 rfl Try.ntmps19 rfl fun W A => ?_
  refine Wp.seq ?_
  refine Wp.reg ?_
  refine Sq.box (z := (x0 : T_session_State)) (look_t rfl) rfl fun p1 => ?_
  refine Sq.box (z := (x1 : T_ref20_State)) (look_t rfl) rfl fun p2 => ?_
  refine Sq.v (r_asg (look_bool false)) rfl rfl rfl ?_
  refine Sq.nil ?_
  refine To.next ?_
  refine Wp.seq ?_
  refine Wp.seq ?_
  refine Wp.reg ?_
  refine Sq.v (r_fa fd40_0 (look_t rfl)) rfl rfl rfl ?_
  refine Sq.v (r_load (i := 1) ((Lens.id T_session_State).comp le_T_session_State_Sessions) (r := x0.f_Sessions) ty37 (look_t rfl) rfl rfl rfl) rfl rfl rfl ?_
  refine Sq.v (r_len Try.underlying37 (look_t rfl)) rfl rfl rfl ?_
  refine Sq.v (r_fa fd44_0 (look_t rfl)) rfl rfl rfl ?_
  refine Sq.v (r_load (i := 0) ((Lens.id T_ref20_State).comp le_T_ref20_State_Sessions) (r := x1.f_Sessions) ty41 (look_t rfl) rfl rfl rfl) rfl rfl rfl ?_
  refine Sq.v (r_len Try.underlying41 (look_t rfl)) rfl rfl rfl ?_
  refine Sq.v (r_neq (look_t rfl) (look_t rfl)) rfl rfl rfl ?_
  refine Sq.v (r_move (look_t rfl)) rfl rfl rfl ?_
  refine Sq.g (fun hb => r_fa fd40_1 (look_t rfl)) rfl rfl rfl rfl rfl ?_
  refine Sq.g (fun hb => r_load (i := 1) ((Lens.id T_session_State).comp le_T_session_State_Tops) (r := x0.f_Tops) ty38 (look_tc rfl hb) rfl rfl rfl) rfl rfl rfl rfl rfl ?_
  refine Sq.g (fun hb => r_len Try.underlying38 (look_tc rfl hb)) rfl rfl rfl rfl rfl ?_
  refine Sq.g (fun hb => r_fa fd44_1 (look_t rfl)) rfl rfl rfl rfl rfl ?_
  refine Sq.g (fun hb => r_load (i := 0) ((Lens.id T_ref20_State).comp le_T_ref20_State_Tops) (r := x1.f_Tops) ty42 (look_tc rfl hb) rfl rfl rfl) rfl rfl rfl rfl rfl ?_
  refine Sq.g (fun hb => r_len Try.underlying42 (look_tc rfl hb)) rfl rfl rfl rfl rfl ?_
  refine Sq.g (fun hb => r_neq (look_tc rfl hb) (look_tc rfl hb)) rfl rfl rfl rfl rfl ?_
  obtain ⟨z1, hz1, h⟩ := bind_some h
  refine Sq.v ((r_or (look_t rfl) (look_t rfl) (fun h => h)).as (some_in hz1)) rfl rfl rfl ?_
  refine Sq.nil ?_
  refine To.next ?_
  refine Wp.cond (look_t rfl) (fun hc => ?_) (fun hc => ?_)
  · replace h := cond_t hc h
    refine Wp.seq ?_
    refine Wp.reg ?_
    refine Sq.v (r_asg (look_bool false)) rfl rfl rfl ?_
    refine Sq.nil ?_
    refine To.next ?_
    refine Wp.ret ?_
    refine To.ret ?_
    replace h := some_in h
    subst h
    exact To.end1 rfl (rv_t rfl)
  · replace h := cond_f hc h
    refine Wp.skip ?_
    refine To.next ?_
    refine Wp.seq ?_
    refine Wp.seq ?_
    refine Wp.reg ?_
    refine Sq.v (r_fa fd40_0 (look_t rfl)) rfl rfl rfl ?_
    refine Sq.v (r_load (i := 1) ((Lens.id T_session_State).comp le_T_session_State_Sessions) (r := x0.f_Sessions) ty37 (look_t rfl) rfl rfl rfl) rfl rfl rfl ?_
    refine Sq.v (r_len Try.underlying37 (look_t rfl)) rfl rfl rfl ?_
    refine Sq.v (r_move (look_int 0)) rfl rfl rfl ?_
    refine Sq.nil ?_
    refine To.next ?_
    refine Wp.block ?_
    obtain ⟨e1, hl, h⟩ := bind_some h
    refine Wp.loopG (σ := Int) (ε := (Int × Bool) ⊕ (Int × Int × Bool × Bool)) (γ := Unit) (δ := Unit) hl (fun s1 g1 => [(0, VP.of (x0)), (1, VP.of (x1)), (2, VP.eq (.pointer (some ⟨p1, 0, none⟩))), (3, VP.eq (.pointer (some ⟨p2, 0, none⟩))), (4, VP.of (false)), (24, VP.of (z1)), (26, VP.of (x0.f_Sessions)), (27, VP.of (x0.f_Sessions.length : Int)), (28, VP.of (s1))]) (fun s1 g1 => [⟨some p2, .var (x1 : T_ref20_State)⟩, ⟨some p1, .var (x0 : T_session_State)⟩]) (fun q1 => Sum.elim (fun q1 => Exit.exit 0) (fun q1 => Exit.ret) q1) (fun q1 g1 => Sum.elim (fun q1 => [(0, VP.of (x0)), (1, VP.of (x1)), (2, VP.eq (.pointer (some ⟨p1, 0, none⟩))), (3, VP.eq (.pointer (some ⟨p2, 0, none⟩))), (4, VP.of (false)), (24, VP.of (z1)), (26, VP.of (x0.f_Sessions)), (27, VP.of (x0.f_Sessions.length : Int)), (28, VP.of (q1.1)), (29, VP.of (q1.2))]) (fun q1 => [(0, VP.of (x0)), (1, VP.of (x1)), (2, VP.eq (.pointer (some ⟨p1, 0, none⟩))), (3, VP.eq (.pointer (some ⟨p2, 0, none⟩))), (4, VP.of (false)), (5, VP.of (q1.1)), (24, VP.of (z1)), (26, VP.of (x0.f_Sessions)), (27, VP.of (x0.f_Sessions.length : Int)), (28, VP.of (q1.2.1)), (29, VP.of (q1.2.2.1)), (45, VP.of (q1.2.2.2))]) q1) (fun q1 g1 => Sum.elim (fun q1 => [⟨some p2, .var (x1 : T_ref20_State)⟩, ⟨some p1, .var (x0 : T_session_State)⟩]) (fun q1 => [⟨some p2, .var (x1 : T_ref20_State)⟩, ⟨some p1, .var (x0 : T_session_State)⟩]) q1) () rfl (.same rfl (.same rfl (.same rfl (.same rfl (.same rfl (.same rfl (.same rfl (.same rfl (.same rfl .nil))))))))) (fun s1 r h g1 => ?_) (fun g1 => ?_)
    · clear hl
      refine Wp.seq ?_
      refine Wp.reg ?_
      refine Sq.v (r_lss (look_t rfl) (look_t rfl)) rfl rfl rfl ?_
      refine Sq.nil ?_
      refine To.next ?_
      refine Wp.seq ?_
      refine Wp.cond (look_t rfl) (fun hc => ?_) (fun hc => ?_)
      · replace h := cond_t hc h
        refine Wp.skip ?_
        refine To.next ?_
        refine Wp.seq ?_
        refine Wp.block ?_
        refine Wp.seq ?_
        refine Wp.reg ?_
        refine Sq.v (r_move (look_t rfl)) rfl rfl rfl ?_
        obtain ⟨k1, hk1, h⟩ := bind_some h
        refine Sq.v (r_ias (k := k1) Try.underlying37 ty138 (look_t rfl) (look_t rfl) (idx_some hk1)) rfl rfl rfl ?_
        refine Sq.v (r_loadp ty138 (look_t rfl)) rfl rfl rfl ?_
        refine Sq.alloc zr138 rfl fun p3 => ?_
        refine Sq.v (r_asg (look_t rfl)) rfl rfl rfl ?_
        refine Sq.store (i := 0) (Lens.id T_session_Session) (v := (lget x0.f_Sessions k1 : T_session_Session)) (b' := (lget x0.f_Sessions k1 : T_session_Session)) ty138 (look_t rfl) (look_t rfl) rfl rfl rfl ?_
        refine Sq.nil ?_
        refine To.next ?_
        refine Wp.seq ?_
        obtain ⟨z2, hz2, h⟩ := bind_some h
        obtain ⟨k2, hk2, h⟩ := bind_some h
        refine Wp.draw mixed 13 [some 33, some 34, some 35, some 36, some 37, some 38, some 39, some 40, some 41, some 42, some 43, some 44, some 45] [[], [0], [], [2], [], [4], [1, 3, 5], [], [7], [], [8, 9], [10], [6, 11]] [.val (VP.eq (.pointer (some ⟨p3, 0 + 0, none⟩))), .val (VP.of ((lget x0.f_Sessions k1).f_Controller)), .val (VP.eq (.pointer (some ⟨p3, 0 + 1, none⟩))), .val (VP.of ((lget x0.f_Sessions k1).f_Role)), .val (VP.eq (.pointer (some ⟨p3, 0 + 2, none⟩))), .val (VP.of ((lget x0.f_Sessions k1).f_Election)), .val (VP.of (z2)), .val (VP.eq (.pointer (some ⟨p2, 0 + 0, none⟩))), .val (VP.of (x1.f_Sessions)), .val (VP.of (s1)), .val (VP.ptr (lget x1.f_Sessions k2)), .val (VP.of (lget x1.f_Sessions k2)), .val (VP.of (!decide (z2 = lget x1.f_Sessions k2)))] [false, false, false, false, false, false, false, false, false, false, false, false, false] (by kernel_rfl) rfl rfl rfl (fun ps1 => ⟨fun L' hL => HO.v (r_fa fd138_0 (look_t rfl)) rfl, fun L' hL => HO.v (r_load (i := 0) ((Lens.id T_session_Session).comp le_T_session_Session_Controller) (r := (lget x0.f_Sessions k1).f_Controller) ty3 (look_t rfl) (hL _ _ rfl rfl) rfl rfl) rfl, fun L' hL => HO.v (r_fa fd138_1 (look_t rfl)) rfl, fun L' hL => HO.v (r_load (i := 0) ((Lens.id T_session_Session).comp le_T_session_Session_Role) (r := (lget x0.f_Sessions k1).f_Role) ty3 (look_t rfl) (hL _ _ rfl rfl) rfl rfl) rfl, fun L' hL => HO.v (r_fa fd138_2 (look_t rfl)) rfl, fun L' hL => HO.v (r_load (i := 0) ((Lens.id T_session_Session).comp le_T_session_Session_Election) (r := (lget x0.f_Sessions k1).f_Election) ty47 (look_t rfl) (hL _ _ rfl rfl) rfl rfl) rfl, fun L' hL => HO.v ((r_build (b := { f_Controller := (lget x0.f_Sessions k1).f_Controller, f_Role := (lget x0.f_Sessions k1).f_Role, f_Election := (lget x0.f_Sessions k1).f_Election : T_ref20_Session }) rfl bu145 zr145 (.cons le_T_ref20_Session_Controller rfl (look_t rfl) rfl (.cons le_T_ref20_Session_Role rfl (look_t rfl) rfl (.cons le_T_ref20_Session_Election rfl (look_t rfl) rfl (.nil))))).as (some_in hz2)) rfl, fun L' hL => HO.v (r_fa fd44_0 (look_t rfl)) rfl, fun L' hL => HO.v (r_load (i := 1) ((Lens.id T_ref20_State).comp le_T_ref20_State_Sessions) (r := x1.f_Sessions) ty41 (look_t rfl) (hL _ _ rfl rfl) rfl rfl) rfl, fun L' hL => HO.v (r_move (look_t rfl)) rfl, fun L' hL => HO.v (r_ias (k := k2) Try.underlying41 ty145 (look_t rfl) (look_t rfl) (idx_some hk2)) rfl, fun L' hL => HO.v (r_loadp ty145 (look_t rfl)) rfl, fun L' hL => HO.v (r_neA eqv145 rfl eqg145 rfl (look_t rfl) (look_t rfl)) rfl, trivial⟩) fun ps1 => ?_
        refine Sq.nil ?_
        refine To.next ?_
        refine Wp.cond (look_t rfl) (fun hc => ?_) (fun hc => ?_)
        · replace h := cond_t hc h
          refine Wp.seq ?_
          refine Wp.reg ?_
          refine Sq.v (r_asg (look_bool false)) rfl rfl rfl ?_
          refine Sq.nil ?_
          refine To.next ?_
          refine Wp.ret ?_
          refine To.bret ?_
          refine To.ret ?_
          replace h := some_in h
          subst h
          exact To.leaveG () 1 rfl (by simp) rfl (.same rfl (.same rfl (.same rfl (.same rfl (.same rfl (.same rfl (.same rfl (.same rfl (.same rfl (.same rfl (.same rfl (.same rfl .nil))))))))))))
        · replace h := cond_f hc h
          refine Wp.skip ?_
          refine To.bnorm ?_
          refine To.next ?_
          refine Wp.reg ?_
          refine Sq.v (r_add (look_t rfl) (look_int 1)) rfl rfl rfl ?_
          refine Sq.v (r_move (look_t rfl)) rfl rfl rfl ?_
          refine Sq.nil ?_
          replace h := some_in h
          subst h
          exact To.roundG () 1 rfl (.same rfl (.same rfl (.same rfl (.same rfl (.same rfl (.same rfl (.same rfl (.same rfl (.same rfl .nil)))))))))
      · replace h := cond_f hc h
        refine Wp.exit ?_
        refine To.exit ?_
        replace h := some_in h
        subst h
        exact To.leaveG () 0 rfl (by simp) rfl (.same rfl (.same rfl (.same rfl (.same rfl (.same rfl (.same rfl (.same rfl (.same rfl (.same rfl (.same rfl .nil))))))))))
    · clear hl
      rcases e1 with e1 | e1
      · simp only [Sum.elim_inl] at h
        refine To.bexit ?_
        refine To.next ?_
        refine Wp.seq ?_
        refine Wp.seq ?_
        refine Wp.reg ?_
        refine Sq.v (r_fa fd40_1 (look_t rfl)) rfl rfl rfl ?_
        refine Sq.v (r_load (i := 1) ((Lens.id T_session_State).comp le_T_session_State_Tops) (r := x0.f_Tops) ty38 (look_t rfl) rfl rfl rfl) rfl rfl rfl ?_
        refine Sq.v (r_len Try.underlying38 (look_t rfl)) rfl rfl rfl ?_
        refine Sq.v (r_move (look_int 0)) rfl rfl rfl ?_
        refine Sq.nil ?_
        refine To.next ?_
        refine Wp.block ?_
        obtain ⟨e2, hl, h⟩ := bind_some h
        refine Wp.loopG (σ := Int) (ε := (Int × Bool) ⊕ (Int × Int × Bool × Bool)) (γ := Unit) (δ := Unit) hl (fun s2 g2 => [(0, VP.of (x0)), (1, VP.of (x1)), (2, VP.eq (.pointer (some ⟨p1, 0, none⟩))), (3, VP.eq (.pointer (some ⟨p2, 0, none⟩))), (4, VP.of (false)), (24, VP.of (z1)), (26, VP.of (x0.f_Sessions)), (27, VP.of (x0.f_Sessions.length : Int)), (28, VP.of (e1.1)), (29, VP.of (e1.2)), (48, VP.of (x0.f_Tops)), (49, VP.of (x0.f_Tops.length : Int)), (50, VP.of (s2))]) (fun s2 g2 => [⟨some p2, .var (x1 : T_ref20_State)⟩, ⟨some p1, .var (x0 : T_session_State)⟩]) (fun q2 => Sum.elim (fun q2 => Exit.exit 2) (fun q2 => Exit.ret) q2) (fun q2 g2 => Sum.elim (fun q2 => [(0, VP.of (x0)), (1, VP.of (x1)), (2, VP.eq (.pointer (some ⟨p1, 0, none⟩))), (3, VP.eq (.pointer (some ⟨p2, 0, none⟩))), (4, VP.of (false)), (24, VP.of (z1)), (26, VP.of (x0.f_Sessions)), (27, VP.of (x0.f_Sessions.length : Int)), (28, VP.of (e1.1)), (29, VP.of (e1.2)), (48, VP.of (x0.f_Tops)), (49, VP.of (x0.f_Tops.length : Int)), (50, VP.of (q2.1)), (51, VP.of (q2.2))]) (fun q2 => [(0, VP.of (x0)), (1, VP.of (x1)), (2, VP.eq (.pointer (some ⟨p1, 0, none⟩))), (3, VP.eq (.pointer (some ⟨p2, 0, none⟩))), (4, VP.of (false)), (7, VP.of (q2.1)), (24, VP.of (z1)), (26, VP.of (x0.f_Sessions)), (27, VP.of (x0.f_Sessions.length : Int)), (28, VP.of (e1.1)), (29, VP.of (e1.2)), (48, VP.of (x0.f_Tops)), (49, VP.of (x0.f_Tops.length : Int)), (50, VP.of (q2.2.1)), (51, VP.of (q2.2.2.1)), (65, VP.of (q2.2.2.2))]) q2) (fun q2 g2 => Sum.elim (fun q2 => [⟨some p2, .var (x1 : T_ref20_State)⟩, ⟨some p1, .var (x0 : T_session_State)⟩]) (fun q2 => [⟨some p2, .var (x1 : T_ref20_State)⟩, ⟨some p1, .var (x0 : T_session_State)⟩]) q2) () rfl (.same rfl (.same rfl (.same rfl (.same rfl (.same rfl (.same rfl (.same rfl (.same rfl (.same rfl (.same rfl (.same rfl (.same rfl (.same rfl .nil))))))))))))) (fun s2 r h g2 => ?_) (fun g2 => ?_)
        · clear hl
          refine Wp.seq ?_
          refine Wp.reg ?_
          refine Sq.v (r_lss (look_t rfl) (look_t rfl)) rfl rfl rfl ?_
          refine Sq.nil ?_
          refine To.next ?_
          refine Wp.seq ?_
          refine Wp.cond (look_t rfl) (fun hc => ?_) (fun hc => ?_)
          · replace h := cond_t hc h
            refine Wp.skip ?_
            refine To.next ?_
            refine Wp.seq ?_
            refine Wp.block ?_
            refine Wp.seq ?_
            refine Wp.reg ?_
            refine Sq.v (r_move (look_t rfl)) rfl rfl rfl ?_
            obtain ⟨k3, hk3, h⟩ := bind_some h
            refine Sq.v (r_ias (k := k3) Try.underlying38 ty67 (look_t rfl) (look_t rfl) (idx_some hk3)) rfl rfl rfl ?_
            refine Sq.v (r_loadp ty67 (look_t rfl)) rfl rfl rfl ?_
            refine Sq.alloc zr67 rfl fun p4 => ?_
            refine Sq.v (r_asg (look_t rfl)) rfl rfl rfl ?_
            refine Sq.store (i := 0) (Lens.id T_session_Top) (v := (lget x0.f_Tops k3 : T_session_Top)) (b' := (lget x0.f_Tops k3 : T_session_Top)) ty67 (look_t rfl) (look_t rfl) rfl rfl rfl ?_
            refine Sq.nil ?_
            refine To.next ?_
            refine Wp.seq ?_
            obtain ⟨z3, hz3, h⟩ := bind_some h
            obtain ⟨k4, hk4, h⟩ := bind_some h
            refine Wp.draw mixed 11 [some 55, some 56, some 57, some 58, some 59, some 60, some 61, some 62, some 63, some 64, some 65] [[], [0], [], [2], [1, 3], [], [5], [], [6, 7], [8], [4, 9]] [.val (VP.eq (.pointer (some ⟨p4, 0 + 0, none⟩))), .val (VP.of ((lget x0.f_Tops k3).f_Role)), .val (VP.eq (.pointer (some ⟨p4, 0 + 1, none⟩))), .val (VP.of ((lget x0.f_Tops k3).f_Election)), .val (VP.of (z3)), .val (VP.eq (.pointer (some ⟨p2, 0 + 1, none⟩))), .val (VP.of (x1.f_Tops)), .val (VP.of (s2)), .val (VP.ptr (lget x1.f_Tops k4)), .val (VP.of (lget x1.f_Tops k4)), .val (VP.of (!decide (z3 = lget x1.f_Tops k4)))] [false, false, false, false, false, false, false, false, false, false, false] (by kernel_rfl) rfl rfl rfl (fun ps2 => ⟨fun L' hL => HO.v (r_fa fd67_0 (look_t rfl)) rfl, fun L' hL => HO.v (r_load (i := 0) ((Lens.id T_session_Top).comp le_T_session_Top_Role) (r := (lget x0.f_Tops k3).f_Role) ty3 (look_t rfl) (hL _ _ rfl rfl) rfl rfl) rfl, fun L' hL => HO.v (r_fa fd67_1 (look_t rfl)) rfl, fun L' hL => HO.v (r_load (i := 0) ((Lens.id T_session_Top).comp le_T_session_Top_Election) (r := (lget x0.f_Tops k3).f_Election) ty47 (look_t rfl) (hL _ _ rfl rfl) rfl rfl) rfl, fun L' hL => HO.v ((r_build (b := { f_Role := (lget x0.f_Tops k3).f_Role, f_Election := (lget x0.f_Tops k3).f_Election : T_ref20_Top }) rfl bu159 zr159 (.cons le_T_ref20_Top_Role rfl (look_t rfl) rfl (.cons le_T_ref20_Top_Election rfl (look_t rfl) rfl (.nil)))).as (some_in hz3)) rfl, fun L' hL => HO.v (r_fa fd44_1 (look_t rfl)) rfl, fun L' hL => HO.v (r_load (i := 1) ((Lens.id T_ref20_State).comp le_T_ref20_State_Tops) (r := x1.f_Tops) ty42 (look_t rfl) (hL _ _ rfl rfl) rfl rfl) rfl, fun L' hL => HO.v (r_move (look_t rfl)) rfl, fun L' hL => HO.v (r_ias (k := k4) Try.underlying42 ty159 (look_t rfl) (look_t rfl) (idx_some hk4)) rfl, fun L' hL => HO.v (r_loadp ty159 (look_t rfl)) rfl, fun L' hL => HO.v (r_neA eqv159 rfl eqg159 rfl (look_t rfl) (look_t rfl)) rfl, trivial⟩) fun ps2 => ?_
            refine Sq.nil ?_
            refine To.next ?_
            refine Wp.cond (look_t rfl) (fun hc => ?_) (fun hc => ?_)
            · replace h := cond_t hc h
              refine Wp.seq ?_
              refine Wp.reg ?_
              refine Sq.v (r_asg (look_bool false)) rfl rfl rfl ?_
              refine Sq.nil ?_
              refine To.next ?_
              refine Wp.ret ?_
              refine To.bret ?_
              refine To.ret ?_
              replace h := some_in h
              subst h
              exact To.leaveG () 1 rfl (by simp) rfl (.same rfl (.same rfl (.same rfl (.same rfl (.same rfl (.same rfl (.same rfl (.same rfl (.same rfl (.same rfl (.same rfl (.same rfl (.same rfl (.same rfl (.same rfl (.same rfl .nil))))))))))))))))
            · replace h := cond_f hc h
              refine Wp.skip ?_
              refine To.bnorm ?_
              refine To.next ?_
              refine Wp.reg ?_
              refine Sq.v (r_add (look_t rfl) (look_int 1)) rfl rfl rfl ?_
              refine Sq.v (r_move (look_t rfl)) rfl rfl rfl ?_
              refine Sq.nil ?_
              replace h := some_in h
              subst h
              exact To.roundG () 1 rfl (.same rfl (.same rfl (.same rfl (.same rfl (.same rfl (.same rfl (.same rfl (.same rfl (.same rfl (.same rfl (.same rfl (.same rfl (.same rfl .nil)))))))))))))
          · replace h := cond_f hc h
            refine Wp.exit ?_
            refine To.exit ?_
            replace h := some_in h
            subst h
            exact To.leaveG () 0 rfl (by simp) rfl (.same rfl (.same rfl (.same rfl (.same rfl (.same rfl (.same rfl (.same rfl (.same rfl (.same rfl (.same rfl (.same rfl (.same rfl (.same rfl (.same rfl .nil))))))))))))))
        · clear hl
          rcases e2 with e2 | e2
          · simp only [Sum.elim_inl] at h
            refine To.bexit ?_
            refine To.next ?_
            refine Wp.seq ?_
            refine Wp.reg ?_
            refine Sq.v (r_asg (look_bool true)) rfl rfl rfl ?_
            refine Sq.nil ?_
            refine To.next ?_
            refine Wp.ret ?_
            replace h := some_in h
            subst h
            exact To.end1 rfl (rv_t rfl)
          · simp only [Sum.elim_inr] at h
            refine To.bret ?_
            refine To.ret ?_
            replace h := some_in h
            subst h
            exact To.end1 rfl (rv_t rfl)
      · simp only [Sum.elim_inr] at h
        refine To.bret ?_
        refine To.ret ?_
        replace h := some_in h
        subst h
        exact To.end1 rfl (rv_t rfl)
set_option maxHeartbeats 2000000 in
theorem C_mcase_Codes_Next {x0 : T_mcase_Codes} {x1 : Int} {pp0 : Nat} {r : Int × T_mcase_Codes} (h : L_mcase_Codes_Next x0 x1 = some r) : MeetsO Try.prog 49 [VP.eq (.pointer (some ⟨pp0, 0, none⟩)), VP.of (x1)] [⟨some pp0, .var (x0 : T_mcase_Codes)⟩] (δ := Unit) (fun d => VP.of (r.1)) (fun d => [⟨some pp0, .var (r.2 : T_mcase_Codes)⟩]) := by
  unfold L_mcase_Codes_Next at h
  refine MeetsO.of Try.func49 rfl Try.ntmps49 rfl fun W A => ?_
  refine Wp.seq ?_
  refine Wp.reg ?_
  refine Sq.v (r_asg (look_int 0)) rfl rfl rfl ?_
  refine Sq.nil ?_
  refine To.next ?_
  refine Wp.seq ?_
  refine Wp.seq ?_
  refine Wp.reg ?_
  refine Sq.v (r_move (look_t rfl)) rfl rfl rfl ?_
  refine Sq.bring 0 rfl ?_
  obtain ⟨y1, hy1, h⟩ := bind_some h
  refine Sq.callO (Lin := [⟨some pp0, .var (x0 : T_mcase_Codes)⟩]) (Lr := []) en76 (C_mcase_Codes_Left hy1) ⟨look_t rfl, trivial⟩ rfl fun q1 => ?_
  refine Sq.v (r_not (look_t rfl)) rfl rfl rfl ?_
  refine Sq.v (r_move (look_t rfl)) rfl rfl rfl ?_
  refine Sq.g (fun hb => r_move (look_t rfl)) rfl rfl rfl rfl rfl ?_
  refine Sq.g (fun hb => r_lss (look_tc rfl hb) (look_int 1)) rfl rfl rfl rfl rfl ?_
  refine Sq.v (r_or (look_t rfl) (look_t rfl) (fun h => h)) rfl rfl rfl ?_
  refine Sq.nil ?_
  refine To.next ?_
  refine Wp.cond (look_t rfl) (fun hc => ?_) (fun hc => ?_)
  · replace h := cond_t hc h
    refine Wp.seq ?_
    refine Wp.reg ?_
    refine Sq.v (r_asg (look_int 0)) rfl rfl rfl ?_
    refine Sq.nil ?_
    refine To.next ?_
    refine Wp.ret ?_
    refine To.ret ?_
    refine To.bring 0 rfl ?_
    replace h := some_in h
    subst h
    exact To.endO1 () (.cons_cons _ (List.nil_sublist _)) rfl rfl (rvo_t rfl)
  · replace h := cond_f hc h
    refine Wp.skip ?_
    refine To.next ?_
    refine Wp.seq ?_
    refine Wp.reg ?_
    refine Sq.v (r_move (look_t rfl)) rfl rfl rfl ?_
    refine Sq.v (r_nck (look_t rfl)) rfl rfl rfl ?_
    refine Sq.v (r_fa fd120_1 (look_t rfl)) rfl rfl rfl ?_
    refine Sq.v (r_load (i := 0) ((Lens.id T_mcase_Codes).comp le_T_mcase_Codes_at) (r := x0.f_at) ty3 (look_t rfl) rfl rfl rfl) rfl rfl rfl ?_
    refine Sq.v (r_add (look_t rfl) (look_int 1)) rfl rfl rfl ?_
    refine Sq.v (r_nck (look_t rfl)) rfl rfl rfl ?_
    refine Sq.v (r_fa fd120_1 (look_t rfl)) rfl rfl rfl ?_
    refine Sq.store (i := 0) ((Lens.id T_mcase_Codes).comp le_T_mcase_Codes_at) (v := (w64 (x0.f_at + 1) : Int)) (b' := (({ x0 with f_at := w64 (x0.f_at + 1) } : T_mcase_Codes) : T_mcase_Codes)) ty3 (look_t rfl) (look_t rfl) rfl rfl rfl ?_
    refine Sq.nil ?_
    refine To.next ?_
    refine Wp.seq ?_
    obtain ⟨k1, hk1, h⟩ := bind_some h
    obtain ⟨y2, hy2, h⟩ := bind_some h
    refine Wp.draw mixed 14 [some 19, some 20, some 21, some 22, some 23, some 24, some 25, some 26, some 27, some 28, some 29, some 30, some 31, some 32] [[], [0], [1], [2], [], [4], [5], [6], [7], [3, 8], [9], [10], [], [11, 12]] [.val (VP.eq (.pointer (some ⟨pp0, 0, none⟩))), .val (VP.eq (.pointer (some ⟨pp0, 0, none⟩))), .val (VP.eq (.pointer (some ⟨pp0, 0 + 0, none⟩))), .val (VP.of (x0.f_l)), .val (VP.eq (.pointer (some ⟨pp0, 0, none⟩))), .val (VP.eq (.pointer (some ⟨pp0, 0, none⟩))), .val (VP.eq (.pointer (some ⟨pp0, 0 + 1, none⟩))), .val (VP.of (w64 (x0.f_at + 1))), .val (VP.of (w64 ((w64 (x0.f_at + 1)) - 1))), .val (VP.ptr (lget x0.f_l k1)), .val (VP.of (lget x0.f_l k1)), .val (VP.of ((lget x0.f_l k1).toNat : Int)), .val (VP.of (x1)), .val (VP.of (y2))] [false, false, false, false, false, false, false, false, false, false, false, false, false, false] (by kernel_rfl) rfl rfl rfl (fun ps1 => ⟨fun L' hL => HO.v (r_move (look_t rfl)) rfl, fun L' hL => HO.v (r_nck (look_t rfl)) rfl, fun L' hL => HO.v (r_fa fd120_0 (look_t rfl)) rfl, fun L' hL => HO.v (r_load (i := 0) ((Lens.id T_mcase_Codes).comp le_T_mcase_Codes_l) (r := x0.f_l) ty22 (look_t rfl) (hL _ _ rfl rfl) rfl rfl) rfl, fun L' hL => HO.v (r_move (look_t rfl)) rfl, fun L' hL => HO.v (r_nck (look_t rfl)) rfl, fun L' hL => HO.v (r_fa fd120_1 (look_t rfl)) rfl, fun L' hL => HO.v (r_load (i := 0) ((Lens.id T_mcase_Codes).comp le_T_mcase_Codes_at) (r := (w64 (x0.f_at + 1))) ty3 (look_t rfl) (hL _ _ rfl rfl) rfl rfl) rfl, fun L' hL => HO.v (r_sub (look_t rfl) (look_int 1)) rfl, fun L' hL => HO.v (r_ias (k := k1) Try.underlying22 ty5 (look_t rfl) (look_t rfl) (idx_some hk1)) rfl, fun L' hL => HO.v (r_loadp ty5 (look_t rfl)) rfl, fun L' hL => HO.v (r_c8i Try.underlying5 Try.underlying3 (look_t rfl)) rfl, fun L' hL => HO.v (r_move (look_t rfl)) rfl, fun L' hL => HO.v (r_rem (look_t rfl) (look_t rfl) (modM_some hy2)) rfl, trivial⟩) fun ps1 => ?_
    refine Sq.v (r_asg (look_t rfl)) rfl rfl rfl ?_
    refine Sq.nil ?_
    refine To.next ?_
    refine Wp.ret ?_
    refine To.bring 0 rfl ?_
    replace h := some_in h
    subst h
    exact To.endO1 () (.cons_cons _ (List.nil_sublist _)) rfl rfl (rvo_t rfl)
set_option maxHeartbeats 2000000 in
theorem C_law20_Op_near {x0 : T_law20_Op}  {r : T_law20_Op} (h : L_law20_Op_near x0 = some r) : Meets Try.prog 14 [VP.of (x0)] (VP.of (r)) := by
  unfold L_law20_Op_near at h
  refine Meets.of Try.func14 rfl Try.ntmps14 rfl fun W A => ?_
  refine Wp.seq ?_
  refine Wp.reg ?_
  refine Sq.box (z := (x0 : T_law20_Op)) (look_t rfl) rfl fun p1 => ?_
  refine Sq.alloc zr49 rfl fun p2 => ?_
  refine Sq.nil ?_
  refine To.next ?_
  refine Wp.seq ?_
  refine Wp.seq ?_
  refine Wp.reg ?_
  refine Sq.v (r_fa fd49_1 (look_t rfl)) rfl rfl rfl ?_
  refine Sq.v (r_load (i := 1) ((Lens.id T_law20_Op).comp le_T_law20_Op_Raw) (r := x0.f_Raw) ty5 (look_t rfl) rfl rfl rfl) rfl rfl rfl ?_
  obtain ⟨y1, hy1, h⟩ := bind_some h
  refine Sq.v (r_rem8 (look_t rfl) (look_u8 8 rfl) (uremM_some hy1)) rfl rfl rfl ?_
  refine Sq.v (r_gtr8 (look_t rfl) (look_u8 0 rfl)) rfl rfl rfl ?_
  refine Sq.nil ?_
  refine To.next ?_
  obtain ⟨m1, hm1, h⟩ := bind_some h
  refine Wp.condM (γ := Unit) (fun g1 => [(0, VP.of (x0)), (1, VP.eq (.pointer (some ⟨p1, 0, none⟩))), (2, VP.eq (.pointer (some ⟨p2, 0, none⟩))), (6, VP.of (decide (y1 > (0#8))))]) (fun g1 => [⟨some p2, .var ((default : T_law20_Op) : T_law20_Op)⟩, ⟨some p1, .var (m1 : T_law20_Op)⟩]) (look_t rfl) (fun g1 => ?_) (fun hm hc => ?_) (fun hm hc => ?_)
  · clear hm1
    refine To.next ?_
    refine Wp.seq ?_
    refine Wp.reg ?_
    refine Sq.v (r_load (i := 1) (Lens.id T_law20_Op) (r := m1) ty49 (look_t rfl) rfl rfl rfl) rfl rfl rfl ?_
    refine Sq.store (i := 0) (Lens.id T_law20_Op) (v := (m1 : T_law20_Op)) (b' := (m1 : T_law20_Op)) ty49 (look_t rfl) (look_t rfl) rfl rfl rfl ?_
    refine Sq.nil ?_
    refine To.next ?_
    refine Wp.ret ?_
    replace h := some_in h
    subst h
    exact To.end1 rfl (rv_c (i := 0) ty49 rfl rfl)
  · have h := cond_t hc hm1
    obtain ⟨y2, hy2, h⟩ := bind_some h
    obtain ⟨y3, hy3, h⟩ := bind_some h
    obtain ⟨k1, hk1, h⟩ := bind_some h
    obtain ⟨y4, hy4, h⟩ := bind_some h
    obtain ⟨z1, hz1, h⟩ := bind_some h
    refine Wp.draw mixed 18 ((some 7) :: (some 8) :: (some 9) :: (some 10) :: (some 11) :: (some 12) :: (some 13) :: (some 14) :: (some 15) :: (some 16) :: (some 17) :: (some 18) :: (some 19) :: (some 20) :: (some 21) :: none :: (some 22) :: none :: []) ([] :: [0] :: [1] :: [] :: [] :: [4] :: [5] :: [3, 6] :: [7] :: [] :: [9] :: [10] :: [11] :: [12] :: [] :: [2, 14] :: [] :: [8, 16] :: []) (.val (VP.eq (.pointer (some ⟨p1, 0 + 2, none⟩))) :: .val (VP.of (x0.f_Controller)) :: .val (VP.of (y2)) :: .val (VP.of ([1, 2, 7] : List Int)) :: .val (VP.eq (.pointer (some ⟨p1, 0 + 3, none⟩))) :: .val (VP.of (x0.f_Role)) :: .val (VP.of (y3)) :: .val (VP.ptr (lget ([1, 2, 7] : List Int) k1)) :: .val (VP.of (lget ([1, 2, 7] : List Int) k1)) :: .val (VP.eq (.pointer (some ⟨p1, 0 + 4, none⟩))) :: .val (VP.eq (.pointer (some ⟨p1, 0 + 4 + 1, none⟩))) :: .val (VP.of (x0.f_Election.f_Lo)) :: .val (VP.of (y4)) :: .val (VP.of ({ (default : T_api_Value) with f_Lo := y4 } : T_api_Value)) :: .val (VP.eq (.pointer (some ⟨p1, 0 + 2, none⟩))) :: .sto 1 (.var (({ x0 with f_Controller := y2 } : T_law20_Op) : T_law20_Op)) :: .val (VP.eq (.pointer (some ⟨p1, 0 + 3, none⟩))) :: .sto 1 (.var (z1 : T_law20_Op)) :: []) (false :: false :: false :: false :: false :: false :: false :: false :: false :: false :: false :: false :: false :: false :: false :: true :: false :: true :: []) (by kernel_rfl) rfl rfl rfl (fun ps1 => ⟨fun L' hL => HO.v (r_fa fd49_2 (look_t rfl)) rfl, fun L' hL => HO.v (r_load (i := 1) ((Lens.id T_law20_Op).comp le_T_law20_Op_Controller) (r := x0.f_Controller) ty3 (look_t rfl) (hL _ _ rfl (by kernel_rfl)) rfl rfl) rfl, fun L' hL => HO.v (r_call en22 (C_mcase_Mod hy2) ⟨look_t rfl, look_int 4, trivial⟩) rfl, fun L' hL => HO.v (r_bsl (r := ([1, 2, 7] : List Int)) Try.underlying64 ty3 zr3 rfl rfl (.cons (by simp) (look_int 1) (.cons (by simp) (look_int 2) (.cons (by simp) (look_int 7) (.nil))))) rfl, fun L' hL => HO.v (r_fa fd49_3 (look_t rfl)) rfl, fun L' hL => HO.v (r_load (i := 1) ((Lens.id T_law20_Op).comp le_T_law20_Op_Role) (r := x0.f_Role) ty3 (look_t rfl) (hL _ _ rfl (by kernel_rfl)) rfl rfl) rfl, fun L' hL => HO.v (r_call en22 (C_mcase_Mod hy3) ⟨look_t rfl, look_int 3, trivial⟩) rfl, fun L' hL => HO.v (r_ias (k := k1) Try.underlying64 ty3 (look_t rfl) (look_t rfl) (idx_some hk1)) rfl, fun L' hL => HO.v (r_loadp ty3 (look_t rfl)) rfl, fun L' hL => HO.v (r_fa fd49_4 (look_t rfl)) rfl, fun L' hL => HO.v (r_fa fd47_1 (look_t rfl)) rfl, fun L' hL => HO.v (r_load (i := 1) (((Lens.id T_law20_Op).comp le_T_law20_Op_Election).comp le_T_api_Value_Lo) (r := x0.f_Election.f_Lo) ty45 (look_t rfl) (hL _ _ rfl (by kernel_rfl)) rfl rfl) rfl, fun L' hL => HO.v (r_rem64 (look_t rfl) (look_u64 6 rfl) (uremM_some hy4)) rfl, fun L' hL => HO.v (r_build (b := ({ (default : T_api_Value) with f_Lo := y4 } : T_api_Value)) rfl bu47 zr47 (.cons le_T_api_Value_Lo rfl (look_t rfl) rfl (.nil))) rfl, fun L' hL => HO.v (r_fa fd49_2 (look_t rfl)) rfl, ⟨_, _, rfl, fun L' hL => so_var (i := 1) ((Lens.id T_law20_Op).comp le_T_law20_Op_Controller) (v := (y2 : Int)) (b' := (({ x0 with f_Controller := y2 } : T_law20_Op) : T_law20_Op)) ty3 (look_t rfl) (look_t rfl) (hL _ _ rfl) rfl rfl⟩, fun L' hL => HO.v (r_fa fd49_3 (look_t rfl)) rfl, ⟨_, _, rfl, fun L' hL => so_var (i := 1) ((Lens.id T_law20_Op).comp le_T_law20_Op_Role) (v := (lget ([1, 2, 7] : List Int) k1 : Int)) (b' := (z1 : T_law20_Op)) ty3 (look_t rfl) (look_t rfl) (hL _ _ rfl) rfl (some_in hz1)⟩, trivial⟩) fun ps1 => ?_
    refine Sq.v (r_fa fd49_4 (look_t rfl)) rfl rfl rfl ?_
    obtain ⟨z2, hz2, h⟩ := bind_some h
    refine Sq.store (i := 1) ((Lens.id T_law20_Op).comp le_T_law20_Op_Election) (v := (({ (default : T_api_Value) with f_Lo := y4 } : T_api_Value) : T_api_Value)) (b' := (z2 : T_law20_Op)) ty47 (look_t rfl) (look_t rfl) rfl rfl (some_in hz2) ?_
    refine Sq.nil ?_
    replace h := some_in h
    subst h
    exact To.meet 0 rfl (.same rfl (.same rfl (.same rfl (.same rfl .nil)))) (hm ())
  · have h := cond_f hc hm1
    refine Wp.skip ?_
    replace h := some_in h
    subst h
    exact To.meet 0 rfl (.same rfl (.same rfl (.same rfl (.same rfl .nil)))) (hm ())
set_option maxHeartbeats 2000000 in
theorem C_session_of {x0 : T_session_State} {x1 : Int}  {r : T_session_Session × Bool} (h : L_session_of x0 x1 = some r) : Meets Try.prog 56 [VP.of (x0), VP.of (x1)] (VP.tup [VP.of (r.1), VP.of (r.2)]) := by
  unfold L_session_of at h
  refine Meets.of Try.func56 rfl Try.ntmps56 rfl fun W A => ?_
  refine Wp.seq ?_
  refine Wp.reg ?_
  refine Sq.box (z := (x0 : T_session_State)) (look_t rfl) rfl fun p1 => ?_
  refine Sq.box (z := (x1 : Int)) (look_t rfl) rfl fun p2 => ?_
  refine Sq.alloc zr138 rfl fun p3 => ?_
  refine Sq.v (r_asg (look_bool false)) rfl rfl rfl ?_
  refine Sq.nil ?_
  refine To.next ?_
  refine Wp.seq ?_
  refine Wp.reg ?_
  refine Sq.v (r_fa fd40_0 (look_t rfl)) rfl rfl rfl ?_
  refine Sq.v (r_load (i := 2) ((Lens.id T_session_State).comp le_T_session_State_Sessions) (r := x0.f_Sessions) ty37 (look_t rfl) rfl rfl rfl) rfl rfl rfl ?_
  refine Sq.share (α := Int) 1 3 rfl rfl ?_
  refine Sq.v (r_clo1 (F := (fun a0 => L_session_of_fn1 a0 x1)) (τs := [VP.ptr x1]) en97 ⟨look_t rfl, trivial⟩ (fun _ _ h => C_session_of_fn1 h)) rfl rfl rfl ?_
  obtain ⟨y1, hy1, h⟩ := bind_some h
  refine Sq.v (r_call en96 (C_slices_IndexFunc_session_Session hy1) ⟨look_t rfl, look_t rfl, trivial⟩) rfl rfl rfl ?_
  refine Sq.v (r_asg (look_t rfl)) rfl rfl rfl ?_
  refine Sq.nil ?_
  refine To.next ?_
  refine Wp.seq ?_
  refine Wp.seq ?_
  refine Wp.reg ?_
  refine Sq.v (r_move (look_t rfl)) rfl rfl rfl ?_
  refine Sq.v (r_lss (look_t rfl) (look_int 0)) rfl rfl rfl ?_
  refine Sq.nil ?_
  refine To.next ?_
  refine Wp.cond (look_t rfl) (fun hc => ?_) (fun hc => ?_)
  · replace h := cond_t hc h
    refine Wp.seq ?_
    refine Wp.reg ?_
    refine Sq.v (r_build (b := (default : T_session_Session)) rfl bu138 zr138 (.nil)) rfl rfl rfl ?_
    refine Sq.store (i := 0) (Lens.id T_session_Session) (v := ((default : T_session_Session) : T_session_Session)) (b' := ((default : T_session_Session) : T_session_Session)) ty138 (look_t rfl) (look_t rfl) rfl rfl rfl ?_
    refine Sq.v (r_asg (look_bool false)) rfl rfl rfl ?_
    refine Sq.nil ?_
    refine To.next ?_
    refine Wp.ret ?_
    refine To.ret ?_
    replace h := some_in h
    subst h
    exact To.end2 rfl (rv_c (i := 0) ty138 rfl rfl) (rv_t rfl)
  · replace h := cond_f hc h
    refine Wp.skip ?_
    refine To.next ?_
    refine Wp.seq ?_
    refine Wp.reg ?_
    refine Sq.v (r_fa fd40_0 (look_t rfl)) rfl rfl rfl ?_
    refine Sq.v (r_load (i := 2) ((Lens.id T_session_State).comp le_T_session_State_Sessions) (r := x0.f_Sessions) ty37 (look_t rfl) rfl rfl rfl) rfl rfl rfl ?_
    refine Sq.v (r_move (look_t rfl)) rfl rfl rfl ?_
    obtain ⟨k1, hk1, h⟩ := bind_some h
    refine Sq.v (r_ias (k := k1) Try.underlying37 ty138 (look_t rfl) (look_t rfl) (idx_some hk1)) rfl rfl rfl ?_
    refine Sq.v (r_loadp ty138 (look_t rfl)) rfl rfl rfl ?_
    refine Sq.store (i := 0) (Lens.id T_session_Session) (v := (lget x0.f_Sessions k1 : T_session_Session)) (b' := (lget x0.f_Sessions k1 : T_session_Session)) ty138 (look_t rfl) (look_t rfl) rfl rfl rfl ?_
    refine Sq.v (r_asg (look_bool true)) rfl rfl rfl ?_
    refine Sq.nil ?_
    refine To.next ?_
    refine Wp.ret ?_
    replace h := some_in h
    subst h
    exact To.end2 rfl (rv_c (i := 0) ty138 rfl rfl) (rv_t rfl)
end Go.Proofs.Ytodajdohokmjnaa
