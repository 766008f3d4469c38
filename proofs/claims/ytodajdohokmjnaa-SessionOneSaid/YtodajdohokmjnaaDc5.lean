/-
  Printed by the decompiler (dec.py) out of the seat's translation. Each function meets its functional program. Conditions: none.
-/
import Derived.Test.YtodajdohokmjnaaDc0
import Derived.Test.YtodajdohokmjnaaDc1
import Derived.Test.YtodajdohokmjnaaDc2
import Derived.Test.YtodajdohokmjnaaDc3
import Derived.Test.YtodajdohokmjnaaDc4
namespace Go.Proofs.Ytodajdohokmjnaa
open Go Gv
set_option linter.unusedVariables false
set_option linter.unusedSimpArgs false
set_option maxRecDepth 100000
set_option maxHeartbeats 2000000 in
theorem C_ref20_Primary {x0 : T_ref20_State} {x1 : Int}  {r : Int × Bool} (h : L_ref20_Primary x0 x1 = some r) : Meets Try.prog 29 [VP.of (x0), VP.of (x1)] (VP.tup [VP.of (r.1), VP.of (r.2)]) := by
  unfold L_ref20_Primary at h
  refine Meets.of Try.func29 rfl Try.ntmps29 rfl fun W A => ?_
  refine Wp.seq ?_
  refine Wp.reg ?_
  refine Sq.box (z := (x0 : T_ref20_State)) (look_t rfl) rfl fun p1 => ?_
  refine Sq.v (r_asg (look_int 0)) rfl rfl rfl ?_
  refine Sq.v (r_asg (look_bool false)) rfl rfl rfl ?_
  refine Sq.nil ?_
  refine To.next ?_
  refine Wp.seq ?_
  refine Wp.seq ?_
  refine Wp.reg ?_
  refine Sq.v (r_fa fd44_0 (look_t rfl)) rfl rfl rfl ?_
  refine Sq.v (r_load (i := 0) ((Lens.id T_ref20_State).comp le_T_ref20_State_Sessions) (r := x0.f_Sessions) ty41 (look_t rfl) rfl rfl rfl) rfl rfl rfl ?_
  refine Sq.v (r_len Try.underlying41 (look_t rfl)) rfl rfl rfl ?_
  refine Sq.v (r_move (look_int 0)) rfl rfl rfl ?_
  refine Sq.nil ?_
  refine To.next ?_
  refine Wp.block ?_
  obtain ⟨e1, hl, h⟩ := bind_some h
  refine Wp.loopG (σ := Int) (ε := (Int × Bool) ⊕ (Int × Bool × Int × Bool × Bool)) (γ := Unit) (δ := Unit) hl (fun s1 g1 => [(0, VP.of (x0)), (1, VP.of (x1)), (2, VP.eq (.pointer (some ⟨p1, 0, none⟩))), (4, VP.of (0 : Int)), (5, VP.of (false)), (9, VP.of (x0.f_Sessions)), (10, VP.of (x0.f_Sessions.length : Int)), (11, VP.of (s1))]) (fun s1 g1 => [⟨some p1, .var (x0 : T_ref20_State)⟩]) (fun q1 => Sum.elim (fun q1 => Exit.exit 0) (fun q1 => Exit.ret) q1) (fun q1 g1 => Sum.elim (fun q1 => [(0, VP.of (x0)), (1, VP.of (x1)), (2, VP.eq (.pointer (some ⟨p1, 0, none⟩))), (4, VP.of (0 : Int)), (5, VP.of (false)), (9, VP.of (x0.f_Sessions)), (10, VP.of (x0.f_Sessions.length : Int)), (11, VP.of (q1.1)), (12, VP.of (q1.2))]) (fun q1 => [(0, VP.of (x0)), (1, VP.of (x1)), (2, VP.eq (.pointer (some ⟨p1, 0, none⟩))), (4, VP.of (q1.1)), (5, VP.of (q1.2.1)), (9, VP.of (x0.f_Sessions)), (10, VP.of (x0.f_Sessions.length : Int)), (11, VP.of (q1.2.2.1)), (12, VP.of (q1.2.2.2.1)), (26, VP.of (q1.2.2.2.2))]) q1) (fun q1 g1 => Sum.elim (fun q1 => [⟨some p1, .var (x0 : T_ref20_State)⟩]) (fun q1 => [⟨some p1, .var (x0 : T_ref20_State)⟩]) q1) () rfl (.same rfl (.same rfl (.same rfl (.same rfl (.same rfl (.same rfl (.same rfl (.same rfl .nil)))))))) (fun s1 r h g1 => ?_) (fun g1 => ?_)
  · clear hl
    refine Wp.seq ?_
    refine Wp.reg ?_
    refine Sq.v (r_lss (look_t rfl) (look_t rfl)) rfl rfl rfl ?_
    refine Sq.nil ?_
    refine To.next ?_
    refine Wp.seq ?_
    refine Wp.cond (look_t rfl) (fun hc => ?_) (fun hc => ?_)
    · replace h := cond_t hc h
      refine Wp.skip ?_
      refine To.next ?_
      refine Wp.seq ?_
      refine Wp.block ?_
      refine Wp.seq ?_
      refine Wp.reg ?_
      obtain ⟨k1, hk1, h⟩ := bind_some h
      refine Sq.v (r_ias (k := k1) Try.underlying41 ty145 (look_t rfl) (look_t rfl) (idx_some hk1)) rfl rfl rfl ?_
      refine Sq.v (r_loadp ty145 (look_t rfl)) rfl rfl rfl ?_
      refine Sq.alloc zr145 rfl fun p2 => ?_
      refine Sq.store (i := 0) (Lens.id T_ref20_Session) (v := (lget x0.f_Sessions k1 : T_ref20_Session)) (b' := (lget x0.f_Sessions k1 : T_ref20_Session)) ty145 (look_t rfl) (look_t rfl) rfl rfl rfl ?_
      refine Sq.nil ?_
      refine To.next ?_
      refine Wp.seq ?_
      obtain ⟨y1, hy1, h⟩ := bind_some h
      obtain ⟨z1, hz1, h⟩ := bind_some h
      refine Wp.draw mixed 12 [some 15, some 16, some 17, some 18, some 19, some 20, some 21, some 22, some 23, some 24, some 25, some 26] [[], [0], [], [1, 2], [3], [4], [4, 5], [4], [4], [4, 7, 8], [4, 6, 9], [4, 10]] [.val (VP.eq (.pointer (some ⟨p2, 0 + 1, none⟩))), .val (VP.of ((lget x0.f_Sessions k1).f_Role)), .val (VP.of (x1)), .val (VP.of (((lget x0.f_Sessions k1).f_Role) == x1)), .val (VP.of (((lget x0.f_Sessions k1).f_Role) == x1)), .val (VP.cond ((((lget x0.f_Sessions k1).f_Role) == x1) = true) (VP.eq (.pointer (some ⟨p2, 0 + 2, none⟩)))), .val (VP.cond ((((lget x0.f_Sessions k1).f_Role) == x1) = true) (VP.of ((lget x0.f_Sessions k1).f_Election))), .val (VP.cond ((((lget x0.f_Sessions k1).f_Role) == x1) = true) (VP.of (x0))), .val (VP.cond ((((lget x0.f_Sessions k1).f_Role) == x1) = true) (VP.of (x1))), .val (VP.cond ((((lget x0.f_Sessions k1).f_Role) == x1) = true) (VP.of (y1))), .val (VP.cond ((((lget x0.f_Sessions k1).f_Role) == x1) = true) (VP.of (decide ((lget x0.f_Sessions k1).f_Election = y1)))), .val (VP.of (z1))] [false, false, false, false, false, false, false, false, false, false, false, false] (by kernel_rfl) rfl rfl rfl (fun ps1 => ⟨fun L' hL => HO.v (r_fa fd145_1 (look_t rfl)) rfl, fun L' hL => HO.v (r_load (i := 0) ((Lens.id T_ref20_Session).comp le_T_ref20_Session_Role) (r := (lget x0.f_Sessions k1).f_Role) ty3 (look_t rfl) (hL _ _ rfl rfl) rfl rfl) rfl, fun L' hL => HO.v (r_move (look_t rfl)) rfl, fun L' hL => HO.v (r_eql (look_t rfl) (look_t rfl)) rfl, fun L' hL => HO.v (r_move (look_t rfl)) rfl, fun L' hL => HO.g (fun hb => r_fa fd145_2 (look_t rfl)) rfl rfl rfl, fun L' hL => HO.g (fun hb => r_load (i := 0) ((Lens.id T_ref20_Session).comp le_T_ref20_Session_Election) (r := (lget x0.f_Sessions k1).f_Election) ty47 (look_tc rfl hb) (hL _ _ rfl rfl) rfl rfl) rfl rfl rfl, fun L' hL => HO.g (fun hb => r_load (i := 1) (Lens.id T_ref20_State) (r := x0) ty44 (look_t rfl) (hL _ _ rfl rfl) rfl rfl) rfl rfl rfl, fun L' hL => HO.g (fun hb => r_move (look_t rfl)) rfl rfl rfl, fun L' hL => HO.g (fun hb => r_call en74 (C_ref20_top (condM_some hy1 hb)) ⟨look_tc rfl hb, look_tc rfl hb, trivial⟩) rfl rfl rfl, fun L' hL => HO.g (fun hb => r_eqA eqv47 rfl eqg47 rfl (look_tc rfl hb) (look_tc rfl hb)) rfl rfl rfl, fun L' hL => HO.v ((r_and (look_t rfl) (look_t rfl) (fun h => h)).as (some_in hz1)) rfl, trivial⟩) fun ps1 => ?_
      refine Sq.nil ?_
      refine To.next ?_
      refine Wp.cond (look_t rfl) (fun hc => ?_) (fun hc => ?_)
      · replace h := cond_t hc h
        refine Wp.seq ?_
        refine Wp.reg ?_
        refine Sq.v (r_fa fd145_0 (look_t rfl)) rfl rfl rfl ?_
        refine Sq.v (r_load (i := 0) ((Lens.id T_ref20_Session).comp le_T_ref20_Session_Controller) (r := (lget x0.f_Sessions k1).f_Controller) ty3 (look_t rfl) rfl rfl rfl) rfl rfl rfl ?_
        refine Sq.v (r_asg (look_t rfl)) rfl rfl rfl ?_
        refine Sq.v (r_asg (look_bool true)) rfl rfl rfl ?_
        refine Sq.nil ?_
        refine To.next ?_
        refine Wp.ret ?_
        refine To.bret ?_
        refine To.ret ?_
        replace h := some_in h
        subst h
        exact To.leaveG () 1 rfl (by simp) rfl (.same rfl (.same rfl (.same rfl (.same rfl (.same rfl (.same rfl (.same rfl (.same rfl (.same rfl (.same rfl .nil))))))))))
      · replace h := cond_f hc h
        refine Wp.skip ?_
        refine To.bnorm ?_
        refine To.next ?_
        refine Wp.reg ?_
        refine Sq.v (r_add (look_t rfl) (look_int 1)) rfl rfl rfl ?_
        refine Sq.v (r_move (look_t rfl)) rfl rfl rfl ?_
        refine Sq.nil ?_
        replace h := some_in h
        subst h
        exact To.roundG () 1 rfl (.same rfl (.same rfl (.same rfl (.same rfl (.same rfl (.same rfl (.same rfl (.same rfl .nil))))))))
    · replace h := cond_f hc h
      refine Wp.exit ?_
      refine To.exit ?_
      replace h := some_in h
      subst h
      exact To.leaveG () 0 rfl (by simp) rfl (.same rfl (.same rfl (.same rfl (.same rfl (.same rfl (.same rfl (.same rfl (.same rfl (.same rfl .nil)))))))))
  · clear hl
    rcases e1 with e1 | e1
    · simp only [Sum.elim_inl] at h
      refine To.bexit ?_
      refine To.next ?_
      refine Wp.seq ?_
      refine Wp.reg ?_
      refine Sq.v (r_asg (look_int 0)) rfl rfl rfl ?_
      refine Sq.v (r_asg (look_bool false)) rfl rfl rfl ?_
      refine Sq.nil ?_
      refine To.next ?_
      refine Wp.ret ?_
      replace h := some_in h
      subst h
      exact To.end2 rfl (rv_t rfl) (rv_t rfl)
    · simp only [Sum.elim_inr] at h
      refine To.bret ?_
      refine To.ret ?_
      replace h := some_in h
      subst h
      exact To.end2 rfl (rv_t rfl) (rv_t rfl)
set_option maxHeartbeats 2000000 in
theorem C_mcase_Codes_Bool {x0 : T_mcase_Codes} {pp0 : Nat} {r : Bool × T_mcase_Codes} (h : L_mcase_Codes_Bool x0 = some r) : MeetsO Try.prog 54 [VP.eq (.pointer (some ⟨pp0, 0, none⟩))] [⟨some pp0, .var (x0 : T_mcase_Codes)⟩] (δ := Unit) (fun d => VP.of (r.1)) (fun d => [⟨some pp0, .var (r.2 : T_mcase_Codes)⟩]) := by
  unfold L_mcase_Codes_Bool at h
  refine MeetsO.of Try.func54 rfl Try.ntmps54 rfl fun W A => ?_
  refine Wp.seq ?_
  refine Wp.reg ?_
  refine Sq.v (r_asg (look_bool false)) rfl rfl rfl ?_
  refine Sq.nil ?_
  refine To.next ?_
  refine Wp.seq ?_
  refine Wp.reg ?_
  refine Sq.v (r_move (look_t rfl)) rfl rfl rfl ?_
  refine Sq.bring 0 rfl ?_
  obtain ⟨y1, hy1, h⟩ := bind_some h
  refine Sq.callO (Lin := [⟨some pp0, .var (x0 : T_mcase_Codes)⟩]) (Lr := []) en49 (C_mcase_Codes_Next hy1) ⟨look_t rfl, look_int 2, trivial⟩ rfl fun q1 => ?_
  refine Sq.v (r_eql (look_t rfl) (look_int 1)) rfl rfl rfl ?_
  refine Sq.v (r_asg (look_t rfl)) rfl rfl rfl ?_
  refine Sq.nil ?_
  refine To.next ?_
  refine Wp.ret ?_
  refine To.bring 0 rfl ?_
  replace h := some_in h
  subst h
  exact To.endO1 () (.cons_cons _ (List.nil_sublist _)) rfl rfl (rvo_t rfl)
set_option maxHeartbeats 2000000 in
theorem C_session_Leave {x0 : T_session_State} {x1 : Int}  {r : T_session_State × Int} (h : L_session_Leave x0 x1 = some r) : Meets Try.prog 15 [VP.of (x0), VP.of (x1)] (VP.tup [VP.of (r.1), VP.of (r.2)]) := by
  unfold L_session_Leave at h
  refine Meets.of Try.func15 rfl Try.ntmps15 rfl fun W A => ?_
  refine Wp.seq ?_
  refine Wp.reg ?_
  refine Sq.box (z := (x0 : T_session_State)) (look_t rfl) rfl fun p1 => ?_
  refine Sq.box (z := (x1 : Int)) (look_t rfl) rfl fun p2 => ?_
  refine Sq.alloc zr40 rfl fun p3 => ?_
  refine Sq.v (r_asg (look_int 0)) rfl rfl rfl ?_
  refine Sq.nil ?_
  refine To.next ?_
  refine Wp.seq ?_
  refine Wp.seq ?_
  refine Wp.reg ?_
  refine Sq.v (r_load (i := 1) (Lens.id Int) (r := x1) ty3 (look_t rfl) rfl rfl rfl) rfl rfl rfl ?_
  obtain ⟨y1, hy1, h⟩ := bind_some h
  refine Sq.v (r_call en55 (C_session_controls hy1) ⟨look_t rfl, trivial⟩) rfl rfl rfl ?_
  refine Sq.v (r_not (look_t rfl)) rfl rfl rfl ?_
  refine Sq.nil ?_
  refine To.next ?_
  refine Wp.cond (look_t rfl) (fun hc => ?_) (fun hc => ?_)
  · replace h := cond_t hc h
    refine Wp.seq ?_
    refine Wp.reg ?_
    refine Sq.v (r_build (b := (default : T_session_State)) rfl bu40 zr40 (.nil)) rfl rfl rfl ?_
    refine Sq.store (i := 0) (Lens.id T_session_State) (v := ((default : T_session_State) : T_session_State)) (b' := ((default : T_session_State) : T_session_State)) ty40 (look_t rfl) (look_t rfl) rfl rfl rfl ?_
    refine Sq.v (r_asg (look_int 4)) rfl rfl rfl ?_
    refine Sq.nil ?_
    refine To.next ?_
    refine Wp.ret ?_
    refine To.ret ?_
    replace h := some_in h
    subst h
    exact To.end2 rfl (rv_c (i := 0) ty40 rfl rfl) (rv_t rfl)
  · replace h := cond_f hc h
    refine Wp.skip ?_
    refine To.next ?_
    refine Wp.seq ?_
    refine Wp.seq ?_
    refine Wp.reg ?_
    refine Sq.v (r_load (i := 2) (Lens.id T_session_State) (r := x0) ty40 (look_t rfl) rfl rfl rfl) rfl rfl rfl ?_
    refine Sq.v (r_load (i := 1) (Lens.id Int) (r := x1) ty3 (look_t rfl) rfl rfl rfl) rfl rfl rfl ?_
    obtain ⟨y2, hy2, h⟩ := bind_some h
    refine Sq.v (r_call en56 (C_session_of hy2) ⟨look_t rfl, look_t rfl, trivial⟩) rfl rfl rfl ?_
    refine Sq.v (r_move (look_t rfl)) rfl rfl rfl ?_
    refine Sq.v (r_ext (look_t rfl) rfl) rfl rfl rfl ?_
    refine Sq.v (r_ext (look_t rfl) rfl) rfl rfl rfl ?_
    refine Sq.alloc zr138 rfl fun p4 => ?_
    refine Sq.store (i := 0) (Lens.id T_session_Session) (v := (y2.1 : T_session_Session)) (b' := (y2.1 : T_session_Session)) ty138 (look_t rfl) (look_t rfl) rfl rfl rfl ?_
    refine Sq.v (r_asg (look_t rfl)) rfl rfl rfl ?_
    refine Sq.nil ?_
    refine To.next ?_
    refine Wp.seq ?_
    refine Wp.reg ?_
    refine Sq.v (r_move (look_t rfl)) rfl rfl rfl ?_
    refine Sq.v (r_not (look_t rfl)) rfl rfl rfl ?_
    refine Sq.nil ?_
    refine To.next ?_
    refine Wp.cond (look_t rfl) (fun hc => ?_) (fun hc => ?_)
    · replace h := cond_t hc h
      refine Wp.seq ?_
      refine Wp.reg ?_
      refine Sq.v (r_build (b := (default : T_session_State)) rfl bu40 zr40 (.nil)) rfl rfl rfl ?_
      refine Sq.store (i := 1) (Lens.id T_session_State) (v := ((default : T_session_State) : T_session_State)) (b' := ((default : T_session_State) : T_session_State)) ty40 (look_t rfl) (look_t rfl) rfl rfl rfl ?_
      refine Sq.v (r_asg (look_int 25)) rfl rfl rfl ?_
      refine Sq.nil ?_
      refine To.next ?_
      refine Wp.ret ?_
      refine To.ret ?_
      replace h := some_in h
      subst h
      exact To.end2 rfl (rv_c (i := 1) ty40 rfl rfl) (rv_t rfl)
    · replace h := cond_f hc h
      refine Wp.skip ?_
      refine To.next ?_
      refine Wp.seq ?_
      refine Wp.reg ?_
      refine Sq.v (r_fa fd40_0 (look_t rfl)) rfl rfl rfl ?_
      refine Sq.v (r_load (i := 3) ((Lens.id T_session_State).comp le_T_session_State_Sessions) (r := x0.f_Sessions) ty37 (look_t rfl) rfl rfl rfl) rfl rfl rfl ?_
      obtain ⟨y3, hy3, h⟩ := bind_some h
      refine Sq.callO (Lin := []) (Lr := [⟨some p4, .var (y2.1 : T_session_Session)⟩, ⟨some p3, .var ((default : T_session_State) : T_session_State)⟩, ⟨some p2, .var (x1 : Int)⟩, ⟨some p1, .var (x0 : T_session_State)⟩]) en58 (Co_slices_Clone_session_Session hy3) ⟨look_t rfl, trivial⟩ rfl fun q1 => ?_
      refine Sq.share (α := Int) 3 3 rfl rfl ?_
      refine Sq.v (r_clo1 (F := (fun a0 => L_session_Leave_fn1 a0 x1)) (τs := [VP.ptr x1]) en59 ⟨look_t rfl, trivial⟩ (fun _ _ h => C_session_Leave_fn1 h)) rfl rfl rfl ?_
      refine Sq.bring 0 rfl ?_
      obtain ⟨y4, hy4, h⟩ := bind_some h
      refine Sq.callO (Lin := [⟨q1.1, .row 138 (y3 : List T_session_Session) q1.2⟩]) (Lr := [⟨some p4, .var (y2.1 : T_session_Session)⟩, ⟨some p3, .var ((default : T_session_State) : T_session_State)⟩, ⟨none, .dead⟩, ⟨some p1, .var (x0 : T_session_State)⟩]) en57 (Cp0_slices_DeleteFunc_session_Session hy4) ⟨look_t rfl, look_t rfl, trivial⟩ rfl fun q2 => ?_
      refine Sq.v (r_asg (look_t rfl)) rfl rfl rfl ?_
      refine Sq.nil ?_
      refine To.next ?_
      refine Wp.seq ?_
      refine Wp.reg ?_
      refine Sq.v (r_move (look_t rfl)) rfl rfl rfl ?_
      refine Sq.v (r_fa fd40_1 (look_t rfl)) rfl rfl rfl ?_
      refine Sq.v (r_load (i := 3) ((Lens.id T_session_State).comp le_T_session_State_Tops) (r := x0.f_Tops) ty38 (look_t rfl) rfl rfl rfl) rfl rfl rfl ?_
      obtain ⟨y5, hy5, h⟩ := bind_some h
      refine Sq.v (r_call en60 (C_slices_Clone_session_Top hy5) ⟨look_t rfl, trivial⟩) rfl rfl rfl ?_
      refine Sq.v (r_build (b := { f_Sessions := y4, f_Tops := y5 : T_session_State }) rfl bu40 zr40 (.cons le_T_session_State_Sessions rfl (look_t rfl) rfl (.cons le_T_session_State_Tops rfl (look_t rfl) rfl (.nil)))) rfl rfl rfl ?_
      refine Sq.store (i := 1) (Lens.id T_session_State) (v := ({ f_Sessions := y4, f_Tops := y5 : T_session_State } : T_session_State)) (b' := ({ f_Sessions := y4, f_Tops := y5 : T_session_State } : T_session_State)) ty40 (look_t rfl) (look_t rfl) rfl rfl rfl ?_
      refine Sq.v (r_asg (look_int 0)) rfl rfl rfl ?_
      refine Sq.nil ?_
      refine To.next ?_
      refine Wp.ret ?_
      replace h := some_in h
      subst h
      exact To.end2 rfl (rv_c (i := 1) ty40 rfl rfl) (rv_t rfl)
set_option maxHeartbeats 2000000 in
theorem C_session_replaced_session_Session {x0 : List T_session_Session} {x1 : T_session_Session → Option Int} {x2 : T_session_Session}  {r : (List T_session_Session)} (h : L_session_replaced_session_Session x0 x1 x2 = some r) : Meets Try.prog 68 [VP.of (x0), VP.fn1 Try.prog x1, VP.of (x2)] (VP.of (r)) := by
  unfold L_session_replaced_session_Session at h
  refine Meets.of Try.func68 rfl Try.ntmps68 rfl fun W A => ?_
  refine Wp.seq ?_
  refine Wp.reg ?_
  refine Sq.boxF (look_t rfl) one_fn1 rfl ?_
  refine Sq.box (z := (x2 : T_session_Session)) (look_t rfl) rfl fun p2 => ?_
  refine Sq.v (r_asg (look_nil (α := T_session_Session))) rfl rfl rfl ?_
  refine Sq.nil ?_
  refine To.next ?_
  refine Wp.seq ?_
  refine Wp.reg ?_
  refine Sq.v (r_move (look_t rfl)) rfl rfl rfl ?_
  obtain ⟨y1, hy1, h⟩ := bind_some h
  refine Sq.callO (Lin := []) (Lr := [⟨some p2, .var (x2 : T_session_Session)⟩]) en58 (Co_slices_Clone_session_Session hy1) ⟨look_t rfl, trivial⟩ rfl fun q1 => ?_
  refine Sq.share (α := T_session_Session) 1 5 rfl rfl ?_
  refine Sq.v (r_clo1 (F := (fun a0 => L_session_replaced_session_Session_fn1 a0 x1 x2)) (τs := [VP.pv (VP.fn1 Try.prog x1), VP.ptr x2]) en102 ⟨look_t rfl, look_t rfl, trivial⟩ (fun _ _ h => C_session_replaced_session_Session_fn1 h)) rfl rfl rfl ?_
  refine Sq.bring 0 rfl ?_
  obtain ⟨y2, hy2, h⟩ := bind_some h
  refine Sq.callO (Lin := [⟨q1.1, .row 138 (y1 : List T_session_Session) q1.2⟩]) (Lr := [⟨none, .dead⟩]) en57 (Cop0_slices_DeleteFunc_session_Session hy2) ⟨look_t rfl, look_t rfl, trivial⟩ rfl fun q2 => ?_
  refine Sq.v (r_asg (look_t rfl)) rfl rfl rfl ?_
  refine Sq.nil ?_
  refine To.next ?_
  refine Wp.seq ?_
  refine Wp.reg ?_
  refine Sq.v (r_move (look_t rfl)) rfl rfl rfl ?_
  refine Sq.v (r_clo1 (F := (fun a0 => L_session_replaced_session_Session_fn2 a0 x1 x2)) (τs := [VP.pv (VP.fn1 Try.prog x1), VP.ptr x2]) en103 ⟨look_t rfl, look_t rfl, trivial⟩ (fun _ _ h => C_session_replaced_session_Session_fn2 h)) rfl rfl rfl ?_
  obtain ⟨y3, hy3, h⟩ := bind_some h
  refine Sq.v (HR.lend (α := T_session_Session) 0 13 rfl rfl flat_int (r_call en96 (C_slices_IndexFunc_session_Session hy3) ⟨look_t rfl, look_t rfl, trivial⟩)) rfl rfl rfl ?_
  refine Sq.v (r_asg (look_t rfl)) rfl rfl rfl ?_
  refine Sq.nil ?_
  refine To.next ?_
  refine Wp.seq ?_
  refine Wp.seq ?_
  refine Wp.reg ?_
  refine Sq.v (r_move (look_t rfl)) rfl rfl rfl ?_
  refine Sq.v (r_lss (look_t rfl) (look_int 0)) rfl rfl rfl ?_
  refine Sq.nil ?_
  refine To.next ?_
  obtain ⟨m1, hm1, h⟩ := bind_some h
  refine Wp.condM (γ := Unit) (fun g1 => [(0, VP.of (x0)), (1, VP.fn1 Try.prog x1), (2, VP.of (x2)), (4, VP.pv (VP.fn1 Try.prog x1)), (5, VP.ptr x2), (6, VP.of ([] : List T_session_Session)), (7, VP.eq (slv q2.1 y2.length q2.2)), (8, VP.of (m1)), (17, VP.of (decide (y3 < 0)))]) (fun g1 => [⟨q2.1, .row 138 (y2 : List T_session_Session) q2.2⟩, ⟨none, .dead⟩]) (look_t rfl) (fun g1 => ?_) (fun hm hc => ?_) (fun hm hc => ?_)
  · clear hm1
    refine To.next ?_
    refine Wp.seq ?_
    refine Wp.reg ?_
    refine Sq.v (r_move (look_t rfl)) rfl rfl rfl ?_
    refine Sq.v (r_move (look_t rfl)) rfl rfl rfl ?_
    refine Sq.v (r_loadp ty138 (look_t rfl)) rfl rfl rfl ?_
    refine Sq.bslO (α := T_session_Session) (r := [x2]) Try.underlying37 ty138 zr138 rfl rfl (.cons (by simp) (look_t rfl) (.nil)) rfl fun key1 => ?_
    refine Sq.bring 0 rfl ?_
    refine Sq.bring 1 rfl ?_
    obtain ⟨y4, hy4, h⟩ := bind_some h
    refine Sq.callO (Lin := [⟨q2.1, .row 138 (y2 : List T_session_Session) q2.2⟩, ⟨key1, .row 138 ([x2] : List T_session_Session) 1⟩]) (Lr := [⟨none, .dead⟩]) en104 (Cop0_2_slices_Insert_session_Session hy4) ⟨look_t rfl, look_t rfl, look_t rfl, trivial⟩ rfl fun q3 => ?_
    refine Sq.v (r_asg (look_t rfl)) rfl rfl rfl ?_
    refine Sq.nil ?_
    refine To.next ?_
    refine Wp.ret ?_
    refine To.freezeL (α := T_session_Session) 0 [6, 24] ⟨rfl, rfl, trivial⟩ rfl ?_
    replace h := some_in h
    subst h
    exact To.end1 rfl (rv_t rfl)
  · have h := cond_t hc hm1
    refine Wp.reg ?_
    refine Sq.v (r_move (look_t rfl)) rfl rfl rfl ?_
    refine Sq.v (r_lenO (i := 0) Try.underlying37 (look_t rfl) rfl rfl) rfl rfl rfl ?_
    refine Sq.v (r_asg (look_t rfl)) rfl rfl rfl ?_
    refine Sq.nil ?_
    replace h := some_in h
    subst h
    exact To.meet 0 rfl (.same rfl (.same rfl (.same rfl (.same rfl (.same rfl (.same rfl (.same rfl (.same rfl (.same rfl .nil))))))))) (hm ())
  · have h := cond_f hc hm1
    refine Wp.skip ?_
    replace h := some_in h
    subst h
    exact To.meet 0 rfl (.same rfl (.same rfl (.same rfl (.same rfl (.same rfl (.same rfl (.same rfl (.same rfl (.same rfl .nil))))))))) (hm ())
set_option maxHeartbeats 2000000 in
theorem C_session_replaced_session_Top {x0 : List T_session_Top} {x1 : T_session_Top → Option Int} {x2 : T_session_Top}  {r : (List T_session_Top)} (h : L_session_replaced_session_Top x0 x1 x2 = some r) : Meets Try.prog 70 [VP.of (x0), VP.fn1 Try.prog x1, VP.of (x2)] (VP.of (r)) := by
  unfold L_session_replaced_session_Top at h
  refine Meets.of Try.func70 rfl Try.ntmps70 rfl fun W A => ?_
  refine Wp.seq ?_
  refine Wp.reg ?_
  refine Sq.boxF (look_t rfl) one_fn1 rfl ?_
  refine Sq.box (z := (x2 : T_session_Top)) (look_t rfl) rfl fun p2 => ?_
  refine Sq.v (r_asg (look_nil (α := T_session_Top))) rfl rfl rfl ?_
  refine Sq.nil ?_
  refine To.next ?_
  refine Wp.seq ?_
  refine Wp.reg ?_
  refine Sq.v (r_move (look_t rfl)) rfl rfl rfl ?_
  obtain ⟨y1, hy1, h⟩ := bind_some h
  refine Sq.callO (Lin := []) (Lr := [⟨some p2, .var (x2 : T_session_Top)⟩]) en60 (Co_slices_Clone_session_Top hy1) ⟨look_t rfl, trivial⟩ rfl fun q1 => ?_
  refine Sq.share (α := T_session_Top) 1 5 rfl rfl ?_
  refine Sq.v (r_clo1 (F := (fun a0 => L_session_replaced_session_Top_fn1 a0 x1 x2)) (τs := [VP.pv (VP.fn1 Try.prog x1), VP.ptr x2]) en106 ⟨look_t rfl, look_t rfl, trivial⟩ (fun _ _ h => C_session_replaced_session_Top_fn1 h)) rfl rfl rfl ?_
  refine Sq.bring 0 rfl ?_
  obtain ⟨y2, hy2, h⟩ := bind_some h
  refine Sq.callO (Lin := [⟨q1.1, .row 67 (y1 : List T_session_Top) q1.2⟩]) (Lr := [⟨none, .dead⟩]) en105 (Cop0_slices_DeleteFunc_session_Top hy2) ⟨look_t rfl, look_t rfl, trivial⟩ rfl fun q2 => ?_
  refine Sq.v (r_asg (look_t rfl)) rfl rfl rfl ?_
  refine Sq.nil ?_
  refine To.next ?_
  refine Wp.seq ?_
  refine Wp.reg ?_
  refine Sq.v (r_move (look_t rfl)) rfl rfl rfl ?_
  refine Sq.v (r_clo1 (F := (fun a0 => L_session_replaced_session_Top_fn2 a0 x1 x2)) (τs := [VP.pv (VP.fn1 Try.prog x1), VP.ptr x2]) en107 ⟨look_t rfl, look_t rfl, trivial⟩ (fun _ _ h => C_session_replaced_session_Top_fn2 h)) rfl rfl rfl ?_
  obtain ⟨y3, hy3, h⟩ := bind_some h
  refine Sq.v (HR.lend (α := T_session_Top) 0 13 rfl rfl flat_int (r_call en100 (C_slices_IndexFunc_session_Top hy3) ⟨look_t rfl, look_t rfl, trivial⟩)) rfl rfl rfl ?_
  refine Sq.v (r_asg (look_t rfl)) rfl rfl rfl ?_
  refine Sq.nil ?_
  refine To.next ?_
  refine Wp.seq ?_
  refine Wp.seq ?_
  refine Wp.reg ?_
  refine Sq.v (r_move (look_t rfl)) rfl rfl rfl ?_
  refine Sq.v (r_lss (look_t rfl) (look_int 0)) rfl rfl rfl ?_
  refine Sq.nil ?_
  refine To.next ?_
  obtain ⟨m1, hm1, h⟩ := bind_some h
  refine Wp.condM (γ := Unit) (fun g1 => [(0, VP.of (x0)), (1, VP.fn1 Try.prog x1), (2, VP.of (x2)), (4, VP.pv (VP.fn1 Try.prog x1)), (5, VP.ptr x2), (6, VP.of ([] : List T_session_Top)), (7, VP.eq (slv q2.1 y2.length q2.2)), (8, VP.of (m1)), (17, VP.of (decide (y3 < 0)))]) (fun g1 => [⟨q2.1, .row 67 (y2 : List T_session_Top) q2.2⟩, ⟨none, .dead⟩]) (look_t rfl) (fun g1 => ?_) (fun hm hc => ?_) (fun hm hc => ?_)
  · clear hm1
    refine To.next ?_
    refine Wp.seq ?_
    refine Wp.reg ?_
    refine Sq.v (r_move (look_t rfl)) rfl rfl rfl ?_
    refine Sq.v (r_move (look_t rfl)) rfl rfl rfl ?_
    refine Sq.v (r_loadp ty67 (look_t rfl)) rfl rfl rfl ?_
    refine Sq.bslO (α := T_session_Top) (r := [x2]) Try.underlying38 ty67 zr67 rfl rfl (.cons (by simp) (look_t rfl) (.nil)) rfl fun key1 => ?_
    refine Sq.bring 0 rfl ?_
    refine Sq.bring 1 rfl ?_
    obtain ⟨y4, hy4, h⟩ := bind_some h
    refine Sq.callO (Lin := [⟨q2.1, .row 67 (y2 : List T_session_Top) q2.2⟩, ⟨key1, .row 67 ([x2] : List T_session_Top) 1⟩]) (Lr := [⟨none, .dead⟩]) en108 (Cop0_2_slices_Insert_session_Top hy4) ⟨look_t rfl, look_t rfl, look_t rfl, trivial⟩ rfl fun q3 => ?_
    refine Sq.v (r_asg (look_t rfl)) rfl rfl rfl ?_
    refine Sq.nil ?_
    refine To.next ?_
    refine Wp.ret ?_
    refine To.freezeL (α := T_session_Top) 0 [6, 24] ⟨rfl, rfl, trivial⟩ rfl ?_
    replace h := some_in h
    subst h
    exact To.end1 rfl (rv_t rfl)
  · have h := cond_t hc hm1
    refine Wp.reg ?_
    refine Sq.v (r_move (look_t rfl)) rfl rfl rfl ?_
    refine Sq.v (r_lenO (i := 0) Try.underlying38 (look_t rfl) rfl rfl) rfl rfl rfl ?_
    refine Sq.v (r_asg (look_t rfl)) rfl rfl rfl ?_
    refine Sq.nil ?_
    replace h := some_in h
    subst h
    exact To.meet 0 rfl (.same rfl (.same rfl (.same rfl (.same rfl (.same rfl (.same rfl (.same rfl (.same rfl (.same rfl .nil))))))))) (hm ())
  · have h := cond_f hc hm1
    refine Wp.skip ?_
    replace h := some_in h
    subst h
    exact To.meet 0 rfl (.same rfl (.same rfl (.same rfl (.same rfl (.same rfl (.same rfl (.same rfl (.same rfl (.same rfl .nil))))))))) (hm ())
set_option maxHeartbeats 2000000 in
theorem C_session_Primary {x0 : T_session_State} {x1 : Int}  {r : Int × Bool} (h : L_session_Primary x0 x1 = some r) : Meets Try.prog 23 [VP.of (x0), VP.of (x1)] (VP.tup [VP.of (r.1), VP.of (r.2)]) := by
  unfold L_session_Primary at h
  refine Meets.of Try.func23 rfl Try.ntmps23 rfl fun W A => ?_
  refine Wp.seq ?_
  refine Wp.reg ?_
  refine Sq.box (z := (x0 : T_session_State)) (look_t rfl) rfl fun p1 => ?_
  refine Sq.v (r_asg (look_int 0)) rfl rfl rfl ?_
  refine Sq.v (r_asg (look_bool false)) rfl rfl rfl ?_
  refine Sq.nil ?_
  refine To.next ?_
  refine Wp.seq ?_
  refine Wp.reg ?_
  refine Sq.v (r_load (i := 0) (Lens.id T_session_State) (r := x0) ty40 (look_t rfl) rfl rfl rfl) rfl rfl rfl ?_
  refine Sq.v (r_move (look_t rfl)) rfl rfl rfl ?_
  obtain ⟨y1, hy1, h⟩ := bind_some h
  refine Sq.v (r_call en66 (C_session_top hy1) ⟨look_t rfl, look_t rfl, trivial⟩) rfl rfl rfl ?_
  refine Sq.alloc zr47 rfl fun p2 => ?_
  refine Sq.store (i := 0) (Lens.id T_api_Value) (v := (y1 : T_api_Value)) (b' := (y1 : T_api_Value)) ty47 (look_t rfl) (look_t rfl) rfl rfl rfl ?_
  refine Sq.nil ?_
  refine To.next ?_
  refine Wp.seq ?_
  refine Wp.seq ?_
  refine Wp.reg ?_
  refine Sq.v (r_fa fd40_0 (look_t rfl)) rfl rfl rfl ?_
  refine Sq.v (r_load (i := 1) ((Lens.id T_session_State).comp le_T_session_State_Sessions) (r := x0.f_Sessions) ty37 (look_t rfl) rfl rfl rfl) rfl rfl rfl ?_
  refine Sq.v (r_len Try.underlying37 (look_t rfl)) rfl rfl rfl ?_
  refine Sq.v (r_move (look_int 0)) rfl rfl rfl ?_
  refine Sq.nil ?_
  refine To.next ?_
  refine Wp.block ?_
  obtain ⟨e1, hl, h⟩ := bind_some h
  refine Wp.loopG (σ := Int) (ε := (Int × Bool) ⊕ (Int × Bool × Int × Bool × Bool)) (γ := Unit) (δ := Unit) hl (fun s1 g1 => [(0, VP.of (x0)), (1, VP.of (x1)), (2, VP.eq (.pointer (some ⟨p1, 0, none⟩))), (4, VP.of (0 : Int)), (5, VP.of (false)), (6, VP.eq (.pointer (some ⟨p2, 0, none⟩))), (13, VP.of (x0.f_Sessions)), (14, VP.of (x0.f_Sessions.length : Int)), (15, VP.of (s1))]) (fun s1 g1 => [⟨some p2, .var (y1 : T_api_Value)⟩, ⟨some p1, .var (x0 : T_session_State)⟩]) (fun q1 => Sum.elim (fun q1 => Exit.exit 0) (fun q1 => Exit.ret) q1) (fun q1 g1 => Sum.elim (fun q1 => [(0, VP.of (x0)), (1, VP.of (x1)), (2, VP.eq (.pointer (some ⟨p1, 0, none⟩))), (4, VP.of (0 : Int)), (5, VP.of (false)), (6, VP.eq (.pointer (some ⟨p2, 0, none⟩))), (13, VP.of (x0.f_Sessions)), (14, VP.of (x0.f_Sessions.length : Int)), (15, VP.of (q1.1)), (16, VP.of (q1.2))]) (fun q1 => [(0, VP.of (x0)), (1, VP.of (x1)), (2, VP.eq (.pointer (some ⟨p1, 0, none⟩))), (4, VP.of (q1.1)), (5, VP.of (q1.2.1)), (6, VP.eq (.pointer (some ⟨p2, 0, none⟩))), (13, VP.of (x0.f_Sessions)), (14, VP.of (x0.f_Sessions.length : Int)), (15, VP.of (q1.2.2.1)), (16, VP.of (q1.2.2.2.1)), (28, VP.of (q1.2.2.2.2))]) q1) (fun q1 g1 => Sum.elim (fun q1 => [⟨some p2, .var (y1 : T_api_Value)⟩, ⟨some p1, .var (x0 : T_session_State)⟩]) (fun q1 => [⟨some p2, .var (y1 : T_api_Value)⟩, ⟨some p1, .var (x0 : T_session_State)⟩]) q1) () rfl (.same rfl (.same rfl (.same rfl (.same rfl (.same rfl (.same rfl (.same rfl (.same rfl (.same rfl .nil))))))))) (fun s1 r h g1 => ?_) (fun g1 => ?_)
  · clear hl
    refine Wp.seq ?_
    refine Wp.reg ?_
    refine Sq.v (r_lss (look_t rfl) (look_t rfl)) rfl rfl rfl ?_
    refine Sq.nil ?_
    refine To.next ?_
    refine Wp.seq ?_
    refine Wp.cond (look_t rfl) (fun hc => ?_) (fun hc => ?_)
    · replace h := cond_t hc h
      refine Wp.skip ?_
      refine To.next ?_
      refine Wp.seq ?_
      refine Wp.block ?_
      refine Wp.seq ?_
      refine Wp.reg ?_
      obtain ⟨k1, hk1, h⟩ := bind_some h
      refine Sq.v (r_ias (k := k1) Try.underlying37 ty138 (look_t rfl) (look_t rfl) (idx_some hk1)) rfl rfl rfl ?_
      refine Sq.v (r_loadp ty138 (look_t rfl)) rfl rfl rfl ?_
      refine Sq.alloc zr138 rfl fun p3 => ?_
      refine Sq.store (i := 0) (Lens.id T_session_Session) (v := (lget x0.f_Sessions k1 : T_session_Session)) (b' := (lget x0.f_Sessions k1 : T_session_Session)) ty138 (look_t rfl) (look_t rfl) rfl rfl rfl ?_
      refine Sq.nil ?_
      refine To.next ?_
      refine Wp.seq ?_
      refine Wp.reg ?_
      refine Sq.v (r_fa fd138_1 (look_t rfl)) rfl rfl rfl ?_
      refine Sq.v (r_load (i := 0) ((Lens.id T_session_Session).comp le_T_session_Session_Role) (r := (lget x0.f_Sessions k1).f_Role) ty3 (look_t rfl) rfl rfl rfl) rfl rfl rfl ?_
      refine Sq.v (r_move (look_t rfl)) rfl rfl rfl ?_
      refine Sq.v (r_eql (look_t rfl) (look_t rfl)) rfl rfl rfl ?_
      refine Sq.v (r_move (look_t rfl)) rfl rfl rfl ?_
      refine Sq.g (fun hb => r_fa fd138_2 (look_t rfl)) rfl rfl rfl rfl rfl ?_
      refine Sq.g (fun hb => r_load (i := 0) ((Lens.id T_session_Session).comp le_T_session_Session_Election) (r := (lget x0.f_Sessions k1).f_Election) ty47 (look_tc rfl hb) rfl rfl rfl) rfl rfl rfl rfl rfl ?_
      refine Sq.g (fun hb => r_load (i := 1) (Lens.id T_api_Value) (r := y1) ty47 (look_t rfl) rfl rfl rfl) rfl rfl rfl rfl rfl ?_
      refine Sq.g (fun hb => r_eqA eqv47 rfl eqg47 rfl (look_tc rfl hb) (look_tc rfl hb)) rfl rfl rfl rfl rfl ?_
      obtain ⟨z1, hz1, h⟩ := bind_some h
      refine Sq.v ((r_and (look_t rfl) (look_t rfl) (fun h => h)).as (some_in hz1)) rfl rfl rfl ?_
      refine Sq.nil ?_
      refine To.next ?_
      refine Wp.cond (look_t rfl) (fun hc => ?_) (fun hc => ?_)
      · replace h := cond_t hc h
        refine Wp.seq ?_
        refine Wp.reg ?_
        refine Sq.v (r_fa fd138_0 (look_t rfl)) rfl rfl rfl ?_
        refine Sq.v (r_load (i := 0) ((Lens.id T_session_Session).comp le_T_session_Session_Controller) (r := (lget x0.f_Sessions k1).f_Controller) ty3 (look_t rfl) rfl rfl rfl) rfl rfl rfl ?_
        refine Sq.v (r_asg (look_t rfl)) rfl rfl rfl ?_
        refine Sq.v (r_asg (look_bool true)) rfl rfl rfl ?_
        refine Sq.nil ?_
        refine To.next ?_
        refine Wp.ret ?_
        refine To.bret ?_
        refine To.ret ?_
        replace h := some_in h
        subst h
        exact To.leaveG () 1 rfl (by simp) rfl (.same rfl (.same rfl (.same rfl (.same rfl (.same rfl (.same rfl (.same rfl (.same rfl (.same rfl (.same rfl (.same rfl .nil)))))))))))
      · replace h := cond_f hc h
        refine Wp.skip ?_
        refine To.bnorm ?_
        refine To.next ?_
        refine Wp.reg ?_
        refine Sq.v (r_add (look_t rfl) (look_int 1)) rfl rfl rfl ?_
        refine Sq.v (r_move (look_t rfl)) rfl rfl rfl ?_
        refine Sq.nil ?_
        replace h := some_in h
        subst h
        exact To.roundG () 1 rfl (.same rfl (.same rfl (.same rfl (.same rfl (.same rfl (.same rfl (.same rfl (.same rfl (.same rfl .nil)))))))))
    · replace h := cond_f hc h
      refine Wp.exit ?_
      refine To.exit ?_
      replace h := some_in h
      subst h
      exact To.leaveG () 0 rfl (by simp) rfl (.same rfl (.same rfl (.same rfl (.same rfl (.same rfl (.same rfl (.same rfl (.same rfl (.same rfl (.same rfl .nil))))))))))
  · clear hl
    rcases e1 with e1 | e1
    · simp only [Sum.elim_inl] at h
      refine To.bexit ?_
      refine To.next ?_
      refine Wp.seq ?_
      refine Wp.reg ?_
      refine Sq.v (r_asg (look_int 0)) rfl rfl rfl ?_
      refine Sq.v (r_asg (look_bool false)) rfl rfl rfl ?_
      refine Sq.nil ?_
      refine To.next ?_
      refine Wp.ret ?_
      replace h := some_in h
      subst h
      exact To.end2 rfl (rv_t rfl) (rv_t rfl)
    · simp only [Sum.elim_inr] at h
      refine To.bret ?_
      refine To.ret ?_
      replace h := some_in h
      subst h
      exact To.end2 rfl (rv_t rfl) (rv_t rfl)
set_option maxHeartbeats 2000000 in
theorem C_session_Check {x0 : T_session_State} {x1 : Int} {x2 : Int}  {r : Int} (h : L_session_Check x0 x1 x2 = some r) : Meets Try.prog 27 [VP.of (x0), VP.of (x1), VP.of (x2)] (VP.of (r)) := by
  unfold L_session_Check at h
  refine Meets.of Try.func27 rfl Try.ntmps27 rfl fun W A => ?_
  refine Wp.seq ?_
  refine Wp.reg ?_
  refine Sq.box (z := (x0 : T_session_State)) (look_t rfl) rfl fun p1 => ?_
  refine Sq.v (r_asg (look_int 0)) rfl rfl rfl ?_
  refine Sq.nil ?_
  refine To.next ?_
  refine Wp.seq ?_
  refine Wp.seq ?_
  refine Wp.reg ?_
  refine Sq.v (r_load (i := 0) (Lens.id T_session_State) (r := x0) ty40 (look_t rfl) rfl rfl rfl) rfl rfl rfl ?_
  refine Sq.v (r_move (look_t rfl)) rfl rfl rfl ?_
  obtain ⟨y1, hy1, h⟩ := bind_some h
  refine Sq.v (r_call en56 (C_session_of hy1) ⟨look_t rfl, look_t rfl, trivial⟩) rfl rfl rfl ?_
  refine Sq.v (r_move (look_t rfl)) rfl rfl rfl ?_
  refine Sq.v (r_ext (look_t rfl) rfl) rfl rfl rfl ?_
  refine Sq.v (r_ext (look_t rfl) rfl) rfl rfl rfl ?_
  refine Sq.alloc zr138 rfl fun p2 => ?_
  refine Sq.store (i := 0) (Lens.id T_session_Session) (v := (y1.1 : T_session_Session)) (b' := (y1.1 : T_session_Session)) ty138 (look_t rfl) (look_t rfl) rfl rfl rfl ?_
  refine Sq.v (r_asg (look_t rfl)) rfl rfl rfl ?_
  refine Sq.nil ?_
  refine To.next ?_
  refine Wp.seq ?_
  refine Wp.reg ?_
  refine Sq.v (r_move (look_t rfl)) rfl rfl rfl ?_
  refine Sq.v (r_move (look_t rfl)) rfl rfl rfl ?_
  refine Sq.g (fun hb => r_fa fd138_1 (look_t rfl)) rfl rfl rfl rfl rfl ?_
  refine Sq.g (fun hb => r_load (i := 0) ((Lens.id T_session_Session).comp le_T_session_Session_Role) (r := y1.1.f_Role) ty3 (look_tc rfl hb) rfl rfl rfl) rfl rfl rfl rfl rfl ?_
  refine Sq.g (fun hb => r_move (look_t rfl)) rfl rfl rfl rfl rfl ?_
  refine Sq.g (fun hb => r_eql (look_tc rfl hb) (look_tc rfl hb)) rfl rfl rfl rfl rfl ?_
  refine Sq.v (r_and (look_t rfl) (look_t rfl) (fun h => h)) rfl rfl rfl ?_
  refine Sq.nil ?_
  refine To.next ?_
  refine Wp.cond (look_t rfl) (fun hc => ?_) (fun hc => ?_)
  · replace h := cond_t hc h
    refine Wp.seq ?_
    refine Wp.reg ?_
    refine Sq.v (r_asg (look_int 0)) rfl rfl rfl ?_
    refine Sq.nil ?_
    refine To.next ?_
    refine Wp.ret ?_
    refine To.ret ?_
    replace h := some_in h
    subst h
    exact To.end1 rfl (rv_t rfl)
  · replace h := cond_f hc h
    refine Wp.skip ?_
    refine To.next ?_
    refine Wp.seq ?_
    refine Wp.seq ?_
    refine Wp.reg ?_
    refine Sq.v (r_move (look_t rfl)) rfl rfl rfl ?_
    obtain ⟨y2, hy2, h⟩ := bind_some h
    refine Sq.v (r_call en55 (C_session_controls hy2) ⟨look_t rfl, trivial⟩) rfl rfl rfl ?_
    refine Sq.v (r_not (look_t rfl)) rfl rfl rfl ?_
    refine Sq.nil ?_
    refine To.next ?_
    refine Wp.cond (look_t rfl) (fun hc => ?_) (fun hc => ?_)
    · replace h := cond_t hc h
      refine Wp.seq ?_
      refine Wp.reg ?_
      refine Sq.v (r_asg (look_int 4)) rfl rfl rfl ?_
      refine Sq.nil ?_
      refine To.next ?_
      refine Wp.ret ?_
      refine To.ret ?_
      replace h := some_in h
      subst h
      exact To.end1 rfl (rv_t rfl)
    · replace h := cond_f hc h
      refine Wp.skip ?_
      refine To.next ?_
      refine Wp.seq ?_
      refine Wp.reg ?_
      refine Sq.v (r_asg (look_int 25)) rfl rfl rfl ?_
      refine Sq.nil ?_
      refine To.next ?_
      refine Wp.ret ?_
      replace h := some_in h
      subst h
      exact To.end1 rfl (rv_t rfl)
end Go.Proofs.Ytodajdohokmjnaa
