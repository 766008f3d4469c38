/-
  Printed by the decompiler (dec.py) out of the seat's translation. Each function meets its functional program. Conditions: none.
-/
import Derived.Test.YtodajdohokmjnaaDl
namespace Go.Proofs.Ytodajdohokmjnaa
open Go Gv
set_option linter.unusedVariables false
set_option linter.unusedSimpArgs false
set_option maxRecDepth 100000
set_option maxHeartbeats 2000000 in
theorem C_slices_IndexFunc_api_Role {x0 : List T_api_Role} {x1 : T_api_Role → Option Bool}  {r : Int} (h : L_slices_IndexFunc_api_Role x0 x1 = some r) : Meets Try.prog 98 [VP.of (x0), VP.fn1 Try.prog x1] (VP.of (r)) := by
  unfold L_slices_IndexFunc_api_Role at h
  refine Meets.of Try.func98 rfl Try.ntmps98 rfl fun W A => ?_
  refine Wp.seq ?_
  refine Wp.reg ?_
  refine Sq.v (r_asg (look_int 0)) rfl rfl rfl ?_
  refine Sq.nil ?_
  refine To.next ?_
  refine Wp.seq ?_
  refine Wp.seq ?_
  refine Wp.reg ?_
  refine Sq.v (r_move (look_t rfl)) rfl rfl rfl ?_
  refine Sq.v (r_len Try.underlying30 (look_t rfl)) rfl rfl rfl ?_
  refine Sq.v (r_move (look_int 0)) rfl rfl rfl ?_
  refine Sq.nil ?_
  refine To.next ?_
  refine Wp.block ?_
  obtain ⟨e1, hl, h⟩ := bind_some h
  refine Wp.loopG (σ := Int) (ε := (Int × Bool) ⊕ (Int × Int × Int × Bool × Bool)) (γ := Unit) (δ := Unit) hl (fun s1 g1 => [(0, VP.of (x0)), (1, VP.fn1 Try.prog x1), (4, VP.of (0 : Int)), (7, VP.of (x0.length : Int)), (8, VP.of (s1))]) (fun s1 g1 => []) (fun q1 => Sum.elim (fun q1 => Exit.exit 0) (fun q1 => Exit.ret) q1) (fun q1 g1 => Sum.elim (fun q1 => [(0, VP.of (x0)), (1, VP.fn1 Try.prog x1), (4, VP.of (0 : Int)), (7, VP.of (x0.length : Int)), (8, VP.of (q1.1)), (9, VP.of (q1.2))]) (fun q1 => [(0, VP.of (x0)), (1, VP.fn1 Try.prog x1), (4, VP.of (q1.1)), (5, VP.of (q1.2.1)), (7, VP.of (x0.length : Int)), (8, VP.of (q1.2.2.1)), (9, VP.of (q1.2.2.2.1)), (16, VP.of (q1.2.2.2.2))]) q1) (fun q1 g1 => Sum.elim (fun q1 => []) (fun q1 => []) q1) () rfl (.same rfl (.same rfl (.same rfl (.same rfl (.same rfl .nil))))) (fun s1 r h g1 => ?_) (fun g1 => ?_)
  · clear hl
    refine Wp.seq ?_
    refine Wp.reg ?_
    refine Sq.v (r_lss (look_t rfl) (look_t rfl)) rfl rfl rfl ?_
    refine Sq.nil ?_
    refine To.next ?_
    refine Wp.seq ?_
    refine Wp.cond (look_t rfl) (fun hc => ?_) (fun hc => ?_)
    · replace h := cond_t hc h
      refine Wp.skip ?_
      refine To.next ?_
      refine Wp.seq ?_
      refine Wp.block ?_
      refine Wp.seq ?_
      refine Wp.reg ?_
      refine Sq.v (r_move (look_t rfl)) rfl rfl rfl ?_
      refine Sq.v (r_asg (look_t rfl)) rfl rfl rfl ?_
      refine Sq.nil ?_
      refine To.next ?_
      refine Wp.seq ?_
      refine Wp.reg ?_
      refine Sq.v (r_move (look_t rfl)) rfl rfl rfl ?_
      refine Sq.v (r_move (look_t rfl)) rfl rfl rfl ?_
      refine Sq.v (r_move (look_t rfl)) rfl rfl rfl ?_
      obtain ⟨k1, hk1, h⟩ := bind_some h
      refine Sq.v (r_ias (k := k1) Try.underlying30 ty207 (look_t rfl) (look_t rfl) (idx_some hk1)) rfl rfl rfl ?_
      refine Sq.v (r_loadp ty207 (look_t rfl)) rfl rfl rfl ?_
      obtain ⟨y1, hy1, h⟩ := bind_some h
      refine Sq.v (r_callF1 (look_t rfl) (look_t rfl) hy1) rfl rfl rfl ?_
      refine Sq.nil ?_
      refine To.next ?_
      refine Wp.cond (look_t rfl) (fun hc => ?_) (fun hc => ?_)
      · replace h := cond_t hc h
        refine Wp.seq ?_
        refine Wp.reg ?_
        refine Sq.v (r_move (look_t rfl)) rfl rfl rfl ?_
        refine Sq.v (r_asg (look_t rfl)) rfl rfl rfl ?_
        refine Sq.nil ?_
        refine To.next ?_
        refine Wp.ret ?_
        refine To.bret ?_
        refine To.ret ?_
        replace h := some_in h
        subst h
        exact To.leaveG () 0 rfl (by simp) rfl (.same rfl (.same rfl (.same rfl (.same rfl (.same rfl (.same rfl (.same rfl (.same rfl .nil))))))))
      · replace h := cond_f hc h
        refine Wp.skip ?_
        refine To.bnorm ?_
        refine To.next ?_
        refine Wp.reg ?_
        refine Sq.v (r_add (look_t rfl) (look_int 1)) rfl rfl rfl ?_
        refine Sq.v (r_move (look_t rfl)) rfl rfl rfl ?_
        refine Sq.nil ?_
        replace h := some_in h
        subst h
        exact To.roundG () 0 rfl (.same rfl (.same rfl (.same rfl (.same rfl (.same rfl .nil)))))
    · replace h := cond_f hc h
      refine Wp.exit ?_
      refine To.exit ?_
      replace h := some_in h
      subst h
      exact To.leaveG () 0 rfl (by simp) rfl (.same rfl (.same rfl (.same rfl (.same rfl (.same rfl (.same rfl .nil))))))
  · clear hl
    rcases e1 with e1 | e1
    · simp only [Sum.elim_inl] at h
      refine To.bexit ?_
      refine To.next ?_
      refine Wp.seq ?_
      refine Wp.reg ?_
      refine Sq.v (r_asg (look_int (-1))) rfl rfl rfl ?_
      refine Sq.nil ?_
      refine To.next ?_
      refine Wp.ret ?_
      replace h := some_in h
      subst h
      exact To.end1 rfl (rv_t rfl)
    · simp only [Sum.elim_inr] at h
      refine To.bret ?_
      refine To.ret ?_
      replace h := some_in h
      subst h
      exact To.end1 rfl (rv_t rfl)
set_option maxHeartbeats 2000000 in
theorem C_session_top_fn1 {x0 : T_session_Top} {x1 : Int}  {r : Bool} (h : L_session_top_fn1 x0 x1 = some r) : Meets Try.prog 101 [VP.of (x0), VP.ptr x1] (VP.of (r)) := by
  unfold L_session_top_fn1 at h
  refine Meets.of Try.func101 rfl Try.ntmps101 rfl fun W A => ?_
  refine Wp.seq ?_
  refine Wp.reg ?_
  refine Sq.box (z := (x0 : T_session_Top)) (look_t rfl) rfl fun p1 => ?_
  refine Sq.v (r_asg (look_bool false)) rfl rfl rfl ?_
  refine Sq.nil ?_
  refine To.next ?_
  refine Wp.seq ?_
  refine Wp.reg ?_
  refine Sq.v (r_fa fd67_0 (look_t rfl)) rfl rfl rfl ?_
  refine Sq.v (r_load (i := 0) ((Lens.id T_session_Top).comp le_T_session_Top_Role) (r := x0.f_Role) ty3 (look_t rfl) rfl rfl rfl) rfl rfl rfl ?_
  refine Sq.v (r_loadp ty3 (look_t rfl)) rfl rfl rfl ?_
  refine Sq.v (r_eql (look_t rfl) (look_t rfl)) rfl rfl rfl ?_
  refine Sq.v (r_asg (look_t rfl)) rfl rfl rfl ?_
  refine Sq.nil ?_
  refine To.next ?_
  refine Wp.ret ?_
  replace h := some_in h
  subst h
  exact To.end1 rfl (rv_t rfl)
set_option maxHeartbeats 2000000 in
theorem C_slices_IndexFunc_session_Top {x0 : List T_session_Top} {x1 : T_session_Top → Option Bool}  {r : Int} (h : L_slices_IndexFunc_session_Top x0 x1 = some r) : Meets Try.prog 100 [VP.of (x0), VP.fn1 Try.prog x1] (VP.of (r)) := by
  unfold L_slices_IndexFunc_session_Top at h
  refine Meets.of Try.func100 rfl Try.ntmps100 rfl fun W A => ?_
  refine Wp.seq ?_
  refine Wp.reg ?_
  refine Sq.v (r_asg (look_int 0)) rfl rfl rfl ?_
  refine Sq.nil ?_
  refine To.next ?_
  refine Wp.seq ?_
  refine Wp.seq ?_
  refine Wp.reg ?_
  refine Sq.v (r_move (look_t rfl)) rfl rfl rfl ?_
  refine Sq.v (r_len Try.underlying38 (look_t rfl)) rfl rfl rfl ?_
  refine Sq.v (r_move (look_int 0)) rfl rfl rfl ?_
  refine Sq.nil ?_
  refine To.next ?_
  refine Wp.block ?_
  obtain ⟨e1, hl, h⟩ := bind_some h
  refine Wp.loopG (σ := Int) (ε := (Int × Bool) ⊕ (Int × Int × Int × Bool × Bool)) (γ := Unit) (δ := Unit) hl (fun s1 g1 => [(0, VP.of (x0)), (1, VP.fn1 Try.prog x1), (4, VP.of (0 : Int)), (7, VP.of (x0.length : Int)), (8, VP.of (s1))]) (fun s1 g1 => []) (fun q1 => Sum.elim (fun q1 => Exit.exit 0) (fun q1 => Exit.ret) q1) (fun q1 g1 => Sum.elim (fun q1 => [(0, VP.of (x0)), (1, VP.fn1 Try.prog x1), (4, VP.of (0 : Int)), (7, VP.of (x0.length : Int)), (8, VP.of (q1.1)), (9, VP.of (q1.2))]) (fun q1 => [(0, VP.of (x0)), (1, VP.fn1 Try.prog x1), (4, VP.of (q1.1)), (5, VP.of (q1.2.1)), (7, VP.of (x0.length : Int)), (8, VP.of (q1.2.2.1)), (9, VP.of (q1.2.2.2.1)), (16, VP.of (q1.2.2.2.2))]) q1) (fun q1 g1 => Sum.elim (fun q1 => []) (fun q1 => []) q1) () rfl (.same rfl (.same rfl (.same rfl (.same rfl (.same rfl .nil))))) (fun s1 r h g1 => ?_) (fun g1 => ?_)
  · clear hl
    refine Wp.seq ?_
    refine Wp.reg ?_
    refine Sq.v (r_lss (look_t rfl) (look_t rfl)) rfl rfl rfl ?_
    refine Sq.nil ?_
    refine To.next ?_
    refine Wp.seq ?_
    refine Wp.cond (look_t rfl) (fun hc => ?_) (fun hc => ?_)
    · replace h := cond_t hc h
      refine Wp.skip ?_
      refine To.next ?_
      refine Wp.seq ?_
      refine Wp.block ?_
      refine Wp.seq ?_
      refine Wp.reg ?_
      refine Sq.v (r_move (look_t rfl)) rfl rfl rfl ?_
      refine Sq.v (r_asg (look_t rfl)) rfl rfl rfl ?_
      refine Sq.nil ?_
      refine To.next ?_
      refine Wp.seq ?_
      refine Wp.reg ?_
      refine Sq.v (r_move (look_t rfl)) rfl rfl rfl ?_
      refine Sq.v (r_move (look_t rfl)) rfl rfl rfl ?_
      refine Sq.v (r_move (look_t rfl)) rfl rfl rfl ?_
      obtain ⟨k1, hk1, h⟩ := bind_some h
      refine Sq.v (r_ias (k := k1) Try.underlying38 ty67 (look_t rfl) (look_t rfl) (idx_some hk1)) rfl rfl rfl ?_
      refine Sq.v (r_loadp ty67 (look_t rfl)) rfl rfl rfl ?_
      obtain ⟨y1, hy1, h⟩ := bind_some h
      refine Sq.v (r_callF1 (look_t rfl) (look_t rfl) hy1) rfl rfl rfl ?_
      refine Sq.nil ?_
      refine To.next ?_
      refine Wp.cond (look_t rfl) (fun hc => ?_) (fun hc => ?_)
      · replace h := cond_t hc h
        refine Wp.seq ?_
        refine Wp.reg ?_
        refine Sq.v (r_move (look_t rfl)) rfl rfl rfl ?_
        refine Sq.v (r_asg (look_t rfl)) rfl rfl rfl ?_
        refine Sq.nil ?_
        refine To.next ?_
        refine Wp.ret ?_
        refine To.bret ?_
        refine To.ret ?_
        replace h := some_in h
        subst h
        exact To.leaveG () 0 rfl (by simp) rfl (.same rfl (.same rfl (.same rfl (.same rfl (.same rfl (.same rfl (.same rfl (.same rfl .nil))))))))
      · replace h := cond_f hc h
        refine Wp.skip ?_
        refine To.bnorm ?_
        refine To.next ?_
        refine Wp.reg ?_
        refine Sq.v (r_add (look_t rfl) (look_int 1)) rfl rfl rfl ?_
        refine Sq.v (r_move (look_t rfl)) rfl rfl rfl ?_
        refine Sq.nil ?_
        replace h := some_in h
        subst h
        exact To.roundG () 0 rfl (.same rfl (.same rfl (.same rfl (.same rfl (.same rfl .nil)))))
    · replace h := cond_f hc h
      refine Wp.exit ?_
      refine To.exit ?_
      replace h := some_in h
      subst h
      exact To.leaveG () 0 rfl (by simp) rfl (.same rfl (.same rfl (.same rfl (.same rfl (.same rfl (.same rfl .nil))))))
  · clear hl
    rcases e1 with e1 | e1
    · simp only [Sum.elim_inl] at h
      refine To.bexit ?_
      refine To.next ?_
      refine Wp.seq ?_
      refine Wp.reg ?_
      refine Sq.v (r_asg (look_int (-1))) rfl rfl rfl ?_
      refine Sq.nil ?_
      refine To.next ?_
      refine Wp.ret ?_
      replace h := some_in h
      subst h
      exact To.end1 rfl (rv_t rfl)
    · simp only [Sum.elim_inr] at h
      refine To.bret ?_
      refine To.ret ?_
      replace h := some_in h
      subst h
      exact To.end1 rfl (rv_t rfl)
set_option maxHeartbeats 2000000 in
theorem C_value_Compare {x0 : T_api_Value} {x1 : T_api_Value}  {r : Int} (h : L_value_Compare x0 x1 = some r) : Meets Try.prog 67 [VP.of (x0), VP.of (x1)] (VP.of (r)) := by
  unfold L_value_Compare at h
  refine Meets.of Try.func67 rfl Try.ntmps67 rfl fun W A => ?_
  refine Wp.seq ?_
  refine Wp.reg ?_
  refine Sq.box (z := (x0 : T_api_Value)) (look_t rfl) rfl fun p1 => ?_
  refine Sq.box (z := (x1 : T_api_Value)) (look_t rfl) rfl fun p2 => ?_
  refine Sq.v (r_asg (look_int 0)) rfl rfl rfl ?_
  refine Sq.nil ?_
  refine To.next ?_
  refine Wp.seq ?_
  refine Wp.block ?_
  refine Wp.seq ?_
  refine Wp.reg ?_
  refine Sq.v (r_load (i := 1) (Lens.id T_api_Value) (r := x0) ty47 (look_t rfl) rfl rfl rfl) rfl rfl rfl ?_
  refine Sq.v (r_load (i := 0) (Lens.id T_api_Value) (r := x1) ty47 (look_t rfl) rfl rfl rfl) rfl rfl rfl ?_
  refine Sq.v (r_eqA eqv47 rfl eqg47 rfl (look_t rfl) (look_t rfl)) rfl rfl rfl ?_
  refine Sq.v (r_asg (look_t rfl)) rfl rfl rfl ?_
  refine Sq.nil ?_
  refine To.next ?_
  refine Wp.cond (look_t rfl) (fun hc => ?_) (fun hc => ?_)
  · replace h := cond_t hc h
    refine Wp.seq ?_
    refine Wp.reg ?_
    refine Sq.v (r_asg (look_int 0)) rfl rfl rfl ?_
    refine Sq.nil ?_
    refine To.next ?_
    refine Wp.ret ?_
    refine To.bret ?_
    refine To.ret ?_
    replace h := some_in h
    subst h
    exact To.end1 rfl (rv_t rfl)
  · replace h := cond_f hc h
    refine Wp.seq ?_
    refine Wp.reg ?_
    refine Sq.v (r_fa fd47_0 (look_t rfl)) rfl rfl rfl ?_
    refine Sq.v (r_load (i := 1) ((Lens.id T_api_Value).comp le_T_api_Value_Hi) (r := x0.f_Hi) ty45 (look_t rfl) rfl rfl rfl) rfl rfl rfl ?_
    refine Sq.v (r_fa fd47_0 (look_t rfl)) rfl rfl rfl ?_
    refine Sq.v (r_load (i := 0) ((Lens.id T_api_Value).comp le_T_api_Value_Hi) (r := x1.f_Hi) ty45 (look_t rfl) rfl rfl rfl) rfl rfl rfl ?_
    refine Sq.v (r_lss64 (look_t rfl) (look_t rfl)) rfl rfl rfl ?_
    refine Sq.v (r_move (look_t rfl)) rfl rfl rfl ?_
    refine Sq.g (fun hb => r_fa fd47_0 (look_t rfl)) rfl rfl rfl rfl rfl ?_
    refine Sq.g (fun hb => r_load (i := 1) ((Lens.id T_api_Value).comp le_T_api_Value_Hi) (r := x0.f_Hi) ty45 (look_tc rfl hb) rfl rfl rfl) rfl rfl rfl rfl rfl ?_
    refine Sq.g (fun hb => r_fa fd47_0 (look_t rfl)) rfl rfl rfl rfl rfl ?_
    refine Sq.g (fun hb => r_load (i := 0) ((Lens.id T_api_Value).comp le_T_api_Value_Hi) (r := x1.f_Hi) ty45 (look_tc rfl hb) rfl rfl rfl) rfl rfl rfl rfl rfl ?_
    refine Sq.g (fun hb => r_eql64 (look_tc rfl hb) (look_tc rfl hb)) rfl rfl rfl rfl rfl ?_
    refine Sq.g (fun hb => r_move (look_tc rfl hb)) rfl rfl rfl rfl rfl ?_
    refine Sq.gg (fun hb => r_fa fd47_1 (look_t rfl)) rfl rfl rfl rfl rfl ?_
    refine Sq.gg (fun hb => r_load (i := 1) ((Lens.id T_api_Value).comp le_T_api_Value_Lo) (r := x0.f_Lo) ty45 (look_tc rfl hb) rfl rfl rfl) rfl rfl rfl rfl rfl ?_
    refine Sq.gg (fun hb => r_fa fd47_1 (look_t rfl)) rfl rfl rfl rfl rfl ?_
    refine Sq.gg (fun hb => r_load (i := 0) ((Lens.id T_api_Value).comp le_T_api_Value_Lo) (r := x1.f_Lo) ty45 (look_tc rfl hb) rfl rfl rfl) rfl rfl rfl rfl rfl ?_
    refine Sq.gg (fun hb => r_lss64 (look_tc rfl hb) (look_tc rfl hb)) rfl rfl rfl rfl rfl ?_
    refine Sq.g (fun hb => r_and (look_tc rfl hb) (look_t rfl) (fun h => ⟨hb, h⟩)) rfl rfl rfl rfl rfl ?_
    obtain ⟨z1, hz1, h⟩ := bind_some h
    refine Sq.v ((r_or (look_t rfl) (look_t rfl) (fun h => h)).as (some_in hz1)) rfl rfl rfl ?_
    refine Sq.v (r_asg (look_t rfl)) rfl rfl rfl ?_
    refine Sq.nil ?_
    refine To.next ?_
    refine Wp.cond (look_t rfl) (fun hc => ?_) (fun hc => ?_)
    · replace h := cond_t hc h
      refine Wp.seq ?_
      refine Wp.reg ?_
      refine Sq.v (r_asg (look_int (-1))) rfl rfl rfl ?_
      refine Sq.nil ?_
      refine To.next ?_
      refine Wp.ret ?_
      refine To.bret ?_
      refine To.ret ?_
      replace h := some_in h
      subst h
      exact To.end1 rfl (rv_t rfl)
    · replace h := cond_f hc h
      refine Wp.skip ?_
      refine To.bnorm ?_
      refine To.next ?_
      refine Wp.seq ?_
      refine Wp.reg ?_
      refine Sq.v (r_asg (look_int 1)) rfl rfl rfl ?_
      refine Sq.nil ?_
      refine To.next ?_
      refine Wp.ret ?_
      replace h := some_in h
      subst h
      exact To.end1 rfl (rv_t rfl)
set_option maxHeartbeats 2000000 in
theorem C_session_replaced_session_Session_fn1 {x0 : T_session_Session} {x1 : T_session_Session → Option Int} {x2 : T_session_Session}  {r : Bool} (h : L_session_replaced_session_Session_fn1 x0 x1 x2 = some r) : Meets Try.prog 102 [VP.of (x0), VP.pv (VP.fn1 Try.prog x1), VP.ptr x2] (VP.of (r)) := by
  unfold L_session_replaced_session_Session_fn1 at h
  refine Meets.of Try.func102 rfl Try.ntmps102 rfl fun W A => ?_
  refine Wp.seq ?_
  refine Wp.reg ?_
  refine Sq.box (z := (x0 : T_session_Session)) (look_t rfl) rfl fun p1 => ?_
  refine Sq.v (r_asg (look_bool false)) rfl rfl rfl ?_
  refine Sq.nil ?_
  refine To.next ?_
  refine Wp.seq ?_
  obtain ⟨y1, hy1, h⟩ := bind_some h
  obtain ⟨y2, hy2, h⟩ := bind_some h
  refine Wp.draw mixed 7 [some 5, some 6, some 7, some 8, some 9, some 10, some 11] [[], [], [0, 1], [], [], [3, 4], [2, 5]] [.val (VP.fn1 Try.prog x1), .val (VP.of (x0)), .val (VP.of (y1)), .val (VP.fn1 Try.prog x1), .val (VP.of (x2)), .val (VP.of (y2)), .val (VP.of (y1 == y2))] [false, false, false, false, false, false, false] (by kernel_rfl) rfl rfl rfl (fun ps1 => ⟨fun L' hL => HO.v (r_loadF Try.underlying154 rfl (look_t rfl)) rfl, fun L' hL => HO.v (r_load (i := 0) (Lens.id T_session_Session) (r := x0) ty138 (look_t rfl) (hL _ _ rfl rfl) rfl rfl) rfl, fun L' hL => HO.v (r_callF1 (look_t rfl) (look_t rfl) hy1) rfl, fun L' hL => HO.v (r_loadF Try.underlying154 rfl (look_t rfl)) rfl, fun L' hL => HO.v (r_loadp ty138 (look_t rfl)) rfl, fun L' hL => HO.v (r_callF1 (look_t rfl) (look_t rfl) hy2) rfl, fun L' hL => HO.v (r_eql (look_t rfl) (look_t rfl)) rfl, trivial⟩) fun ps1 => ?_
  refine Sq.v (r_asg (look_t rfl)) rfl rfl rfl ?_
  refine Sq.nil ?_
  refine To.next ?_
  refine Wp.ret ?_
  replace h := some_in h
  subst h
  exact To.end1 rfl (rv_t rfl)
set_option maxHeartbeats 2000000 in
theorem C_session_replaced_session_Session_fn2 {x0 : T_session_Session} {x1 : T_session_Session → Option Int} {x2 : T_session_Session}  {r : Bool} (h : L_session_replaced_session_Session_fn2 x0 x1 x2 = some r) : Meets Try.prog 103 [VP.of (x0), VP.pv (VP.fn1 Try.prog x1), VP.ptr x2] (VP.of (r)) := by
  unfold L_session_replaced_session_Session_fn2 at h
  refine Meets.of Try.func103 rfl Try.ntmps103 rfl fun W A => ?_
  refine Wp.seq ?_
  refine Wp.reg ?_
  refine Sq.box (z := (x0 : T_session_Session)) (look_t rfl) rfl fun p1 => ?_
  refine Sq.v (r_asg (look_bool false)) rfl rfl rfl ?_
  refine Sq.nil ?_
  refine To.next ?_
  refine Wp.seq ?_
  obtain ⟨y1, hy1, h⟩ := bind_some h
  obtain ⟨y2, hy2, h⟩ := bind_some h
  refine Wp.draw mixed 7 [some 5, some 6, some 7, some 8, some 9, some 10, some 11] [[], [], [0, 1], [], [], [3, 4], [2, 5]] [.val (VP.fn1 Try.prog x1), .val (VP.of (x0)), .val (VP.of (y1)), .val (VP.fn1 Try.prog x1), .val (VP.of (x2)), .val (VP.of (y2)), .val (VP.of (decide (y1 > y2)))] [false, false, false, false, false, false, false] (by kernel_rfl) rfl rfl rfl (fun ps1 => ⟨fun L' hL => HO.v (r_loadF Try.underlying154 rfl (look_t rfl)) rfl, fun L' hL => HO.v (r_load (i := 0) (Lens.id T_session_Session) (r := x0) ty138 (look_t rfl) (hL _ _ rfl rfl) rfl rfl) rfl, fun L' hL => HO.v (r_callF1 (look_t rfl) (look_t rfl) hy1) rfl, fun L' hL => HO.v (r_loadF Try.underlying154 rfl (look_t rfl)) rfl, fun L' hL => HO.v (r_loadp ty138 (look_t rfl)) rfl, fun L' hL => HO.v (r_callF1 (look_t rfl) (look_t rfl) hy2) rfl, fun L' hL => HO.v (r_gtr (look_t rfl) (look_t rfl)) rfl, trivial⟩) fun ps1 => ?_
  refine Sq.v (r_asg (look_t rfl)) rfl rfl rfl ?_
  refine Sq.nil ?_
  refine To.next ?_
  refine Wp.ret ?_
  replace h := some_in h
  subst h
  exact To.end1 rfl (rv_t rfl)
set_option maxHeartbeats 2000000 in
theorem Cop0_2_slices_Insert_session_Session {x0 x2 : List T_session_Session} {x1 : Int} {key00 key02 : Option Nat} {cap00 cap02 : Nat} {r : List T_session_Session} (h : Lp0_2_slices_Insert_session_Session x0 x1 x2 = some r) : MeetsO Try.prog 104 [VP.eq (slv key00 x0.length cap00), VP.of x1, VP.eq (slv key02 x2.length cap02)] [⟨key00, .row 138 x0 cap00⟩, ⟨key02, .row 138 x2 cap02⟩] (δ := (Option Nat × Nat)) (fun d => VP.eq (slv d.1 r.length d.2)) (fun d => [⟨d.1, .row 138 r d.2⟩]) := by
  unfold Lp0_2_slices_Insert_session_Session at h
  obtain ⟨k, rfl, hk, hv, hb1, hb2, rfl⟩ := insM_some h
  refine MeetsO.of Try.func104 rfl Try.ntmps104 rfl fun W A => ?_
  refine Wp.seq ?_
  refine Wp.reg ?_
  refine Sq.v (r_asg look_own) rfl rfl rfl ?_
  refine Sq.nil ?_
  refine To.next ?_
  refine Wp.seq ?_
  refine Wp.reg ?_
  refine Sq.v (r_move (look_t rfl)) rfl rfl rfl ?_
  refine Sq.v (r_move (look_t rfl)) rfl rfl rfl ?_
  refine Sq.v (r_sliceO (i := 0) (xs := x0) Try.underlying37 ty138 (look_t rfl) rfl (.some (look_t rfl)) .none rfl rfl ⟨hk, Nat.le_refl _⟩) rfl rfl rfl ?_
  refine Sq.nil ?_
  refine To.next ?_
  refine Wp.seq ?_
  refine Wp.reg ?_
  refine Sq.v (r_move (look_t rfl)) rfl rfl rfl ?_
  refine Sq.v (r_lenO (i := 1) (xs := x2) Try.underlying37 (look_t rfl) rfl rfl) rfl rfl rfl ?_
  refine Sq.v (r_asg (look_t rfl)) rfl rfl rfl ?_
  refine Sq.nil ?_
  refine To.next ?_
  refine Wp.seq ?_
  refine Wp.seq ?_
  refine Wp.reg ?_
  refine Sq.v (r_move (look_t rfl)) rfl rfl rfl ?_
  refine Sq.v (r_eql (look_t rfl) (look_int 0)) rfl rfl rfl ?_
  refine Sq.nil ?_
  refine To.next ?_
  refine Wp.cond (look_t rfl) (fun hc => ?_) (fun _ => ?_)
  · exfalso; simp only [beq_iff_eq] at hc; omega
  refine Wp.skip ?_
  refine To.next ?_
  refine Wp.seq ?_
  refine Wp.reg ?_
  refine Sq.v (r_move (look_t rfl)) rfl rfl rfl ?_
  refine Sq.v (r_lenO (i := 0) (xs := x0) Try.underlying37 (look_t rfl) rfl rfl) rfl rfl rfl ?_
  refine Sq.v (r_asg (look_t rfl)) rfl rfl rfl ?_
  refine Sq.nil ?_
  refine To.next ?_
  refine Wp.seq ?_
  refine Wp.seq ?_
  refine Wp.reg ?_
  refine Sq.v (r_move (look_t rfl)) rfl rfl rfl ?_
  refine Sq.v (r_move (look_t rfl)) rfl rfl rfl ?_
  refine Sq.v (r_eql (look_t rfl) (look_t rfl)) rfl rfl rfl ?_
  refine Sq.nil ?_
  refine To.next ?_
  refine Wp.cond (look_t rfl) (fun hc => ?_) (fun hc => ?_)
  · have hkn : k = x0.length := by simp only [beq_iff_eq] at hc; omega
    subst hkn
    refine Wp.seq ?_
    refine Wp.reg ?_
    refine Sq.v (r_move (look_t rfl)) rfl rfl rfl ?_
    refine Sq.freezeL (α := T_session_Session) 1 [2, 13] ⟨rfl, rfl, trivial⟩ rfl ?_
    refine Sq.v (r_move (look_t rfl)) rfl rfl rfl ?_
    refine Sq.app (i := 0) (xs := x0) (ys := x2) (r := x0 ++ x2) Try.underlying37 ty138 zr138 (by kernel_rfl) (look_t rfl) rfl (look_t rfl) (by unfold appM; rw [if_pos ⟨hb1, hb2⟩]) rfl fun key1 cap1 => ?_
    refine Sq.v (r_asg (look_t rfl)) rfl rfl rfl ?_
    refine Sq.nil ?_
    refine To.next ?_
    refine Wp.ret ?_
    have hr : x0.take x0.length ++ x2 ++ x0.drop x0.length = x0 ++ x2 := by simp
    rw [hr]
    exact To.endO1 (key1, cap1) (.cons_cons _ (List.nil_sublist _)) rfl rfl (rvo_t rfl)
  have hkn : k < x0.length := by simp only [beq_eq_false_iff_ne] at hc; omega
  refine Wp.skip ?_
  refine To.next ?_
  refine Wp.some (i := 0) (xs := x0) rfl (by omega) fun p hp hcap hcm => ?_
  subst hp
  refine Wp.some (i := 1) (xs := x2) rfl (by omega) fun q hq hcap2 hcm2 => ?_
  subst hq
  refine Wp.apart rfl fun hpq => ?_
  refine Wp.seq ?_
  refine Wp.seq ?_
  refine Wp.reg ?_
  refine Sq.v (r_move (look_t rfl)) rfl rfl rfl ?_
  refine Sq.v (r_move (look_t rfl)) rfl rfl rfl ?_
  refine Sq.v (r_add (look_t rfl) (look_t rfl)) rfl rfl rfl ?_
  refine Sq.v (r_move (look_t rfl)) rfl rfl rfl ?_
  refine Sq.v (r_capO Try.underlying37 (look_t rfl)) rfl rfl rfl ?_
  refine Sq.v (r_gtr (look_t rfl) (look_t rfl)) rfl rfl rfl ?_
  refine Sq.nil ?_
  refine To.next ?_
  have hw : w64 ((x0.length : Int) + (x2.length : Int)) = ((x0.length + x2.length : Nat) : Int) := by
    have hml : maxLen = 9223372036854775807 := rfl
    rw [w64_in (by omega) (by omega)]; simp
  refine Wp.cond (look_t rfl) (fun hc2 => ?_) (fun hc2 => ?_)
  · have hroom : cap00 < x0.length + x2.length := by rw [hw] at hc2; simp only [decide_eq_true_eq] at hc2; omega
    have hml : maxLen = 9223372036854775807 := rfl
    have hj : w64 (w64 ((x0.length : Int) + (x2.length : Int)) - (k : Int)) = ((x0.length + x2.length - k : Nat) : Int) := by
      rw [hw, w64_in (by omega) (by omega)]; omega
    refine Wp.seq ?_
    refine Wp.reg ?_
    refine Sq.v (r_move (look_t rfl)) rfl rfl rfl ?_
    refine Sq.v (r_move (look_t rfl)) rfl rfl rfl ?_
    refine Sq.v (r_sliceO (i := 0) (xs := x0) Try.underlying37 ty138 (look_t rfl) rfl .none (.some (look_t rfl)) rfl rfl ⟨Nat.zero_le _, hk⟩) rfl rfl rfl ?_
    refine Sq.v (r_move (look_t rfl)) rfl rfl rfl ?_
    refine Sq.v (r_move (look_t rfl)) rfl rfl rfl ?_
    refine Sq.v (r_add (look_t rfl) (look_t rfl)) rfl rfl rfl ?_
    refine Sq.v (r_move (look_t rfl)) rfl rfl rfl ?_
    refine Sq.v (r_sub (look_t rfl) (look_t rfl)) rfl rfl rfl ?_
    refine Sq.appZ (i := 0) (m := k) (k := x0.length + x2.length - k) (xs := x0) (z := (default : T_session_Session)) Try.underlying37 Try.underlying3 ty138 zr138 (by rfl) (by kernel_rfl) (look_t rfl) (by rw [← hj]; exact look_t rfl) rfl hk (by omega) (by omega) (by rw [show k + (x0.length + x2.length - k) = x0.length + x2.length by omega]; exact hb1) (by omega) rfl fun q1 cap1 => ?_
    refine Sq.v (r_asg (look_t rfl)) rfl rfl rfl ?_
    refine Sq.nil ?_
    refine To.next ?_
    have hlen : (x0.take k ++ List.replicate (x0.length + x2.length - k) (default : T_session_Session)).length = x0.length + x2.length := by simp; omega
    refine Wp.some (i := 0) (xs := x0.take k ++ List.replicate (x0.length + x2.length - k) (default : T_session_Session)) rfl (by omega) fun q2 hq2 hcapN hcmN => ?_
    rw [hlen] at hcapN
    refine Wp.seq ?_
    refine Wp.reg ?_
    refine Sq.v (r_move (look_t rfl)) rfl rfl rfl ?_
    refine Sq.v (r_move (look_t rfl)) rfl rfl rfl ?_
    refine Sq.v (r_sliceE (α := T_session_Session) (m := k) (h := k + (x0.length + x2.length - k)) Try.underlying37 ty138 (look_t rfl) (.some (look_t rfl)) .none rfl rfl ⟨by omega, by omega⟩) rfl rfl rfl ?_
    refine Sq.v (r_move (look_t rfl)) rfl rfl rfl ?_
    refine Sq.copyG (i := 0) (p := q1) (off := k * Rp.size T_session_Session) (dLen := k + (x0.length + x2.length - k) - k) (dCap := cap1 - k) (N := x2.length) (vs := x2) (T := 138) Try.underlying37 ty138 (by rw [← vslv_at (by omega)]; exact look_t rfl) (src_row (i := 2) (look_t rfl) rfl hv) (Nat.min_eq_left (by omega)) rfl rfl (fun A W o cells h h' => row_part (by omega) h h') ?_
    refine Sq.nil ?_
    refine To.next ?_
    have e1 : (x0.take k ++ List.replicate (x0.length + x2.length - k) (default : T_session_Session)).take k ++ x2 ++ (x0.take k ++ List.replicate (x0.length + x2.length - k) (default : T_session_Session)).drop (k + x2.length) = x0.take k ++ x2 ++ List.replicate (x0.length - k) (default : T_session_Session) := by
      have hk' : (x0.take k).length = k := by rw [List.length_take]; omega
      rw [List.take_left' hk', List.drop_append, hk', List.drop_eq_nil_of_le (by omega), List.nil_append, List.drop_replicate]
      congr 2
      omega
    have hw2 : w64 ((k : Int) + (x2.length : Int)) = ((k + x2.length : Nat) : Int) := by rw [w64_in (by omega) (by omega)]; simp
    refine Wp.seq ?_
    refine Wp.le (E' := [(0, VP.eq (slv (some p) x0.length cap00)), (1, VP.of (k : Int)), (7, VP.of (x2.length : Int)), (9, VP.eq (slv (some q1) (k + (x0.length + x2.length - k)) cap1))]) (.same rfl (.same rfl (.same rfl (.same rfl .nil)))) ?_
    refine Wp.drawD mixed (⟨some 46, [], [], [], fun _ => VP.eq (slv (some q1) (k + (x0.length + x2.length - k)) cap1), fun _ _ => ⟨none, .dead⟩⟩ :: ⟨some 47, [], [], [], fun _ => VP.of (k : Int), fun _ _ => ⟨none, .dead⟩⟩ :: ⟨some 48, [], [], [], fun _ => VP.of (x2.length : Int), fun _ _ => ⟨none, .dead⟩⟩ :: ⟨some 49, (1 :: 2 :: []), [], [], fun _ => VP.of (w64 ((k : Int) + (x2.length : Int))), fun _ _ => ⟨none, .dead⟩⟩ :: ⟨some 50, (0 :: 3 :: []), [], [], fun _ => VP.eq (vslv (some q1) (k + x2.length) ((k + (x0.length + x2.length - k)) - (k + x2.length)) cap1 (Rp.size T_session_Session)), fun _ _ => ⟨none, .dead⟩⟩ :: ⟨some 51, [], [], [], fun _ => VP.eq (slv (some p) x0.length cap00), fun _ _ => ⟨none, .dead⟩⟩ :: ⟨some 52, [], [], [], fun _ => VP.of (k : Int), fun _ _ => ⟨none, .dead⟩⟩ :: ⟨some 53, (5 :: 6 :: []), [], [], fun _ => VP.eq (vslv (some p) k (x0.length - k) cap00 (Rp.size T_session_Session)), fun _ _ => ⟨none, .dead⟩⟩ :: ⟨some 54, (4 :: 7 :: []), (0 :: 1 :: []), (0 :: []), fun _ => VP.of ((((x0.drop k).take (x0.length - k)).length : Nat) : Int), fun _ _ => ⟨some q1, .row 138 ((x0.take k ++ x2 ++ List.replicate (x0.length - k) (default : T_session_Session)).take (k + x2.length) ++ (x0.drop k).take (x0.length - k) ++ (x0.take k ++ x2 ++ List.replicate (x0.length - k) (default : T_session_Session)).drop (k + x2.length + ((x0.drop k).take (x0.length - k)).length)) cap1⟩⟩ :: []) ((some 46, [], [], []) :: (some 47, [], [], []) :: (some 48, [], [], []) :: (some 49, (1 :: 2 :: []), [], []) :: (some 50, (0 :: 3 :: []), [], []) :: (some 51, [], [], []) :: (some 52, [], [], []) :: (some 53, (5 :: 6 :: []), [], []) :: (some 54, (4 :: 7 :: []), (0 :: 1 :: []), (0 :: [])) :: []) (0 :: 1 :: 7 :: 9 :: []) rfl rfl (by kernel_rfl) ⟨?_, ?_, ?_, ?_, ?_, ?_, ?_, ?_, ?_, trivial⟩ fun hd => ?_
    · exact hd_v rfl rfl rfl fun hd E' L' hE hL => r_move (look_t (hE _ _ rfl))
    · exact hd_v rfl rfl rfl fun hd E' L' hE hL => r_move (look_t (hE _ _ rfl))
    · exact hd_v rfl rfl rfl fun hd E' L' hE hL => r_move (look_t (hE _ _ rfl))
    · exact hd_v rfl rfl rfl fun hd E' L' hE hL => r_add (look_t (hE _ _ rfl)) (look_t (hE _ _ rfl))
    · exact hd_v rfl rfl rfl fun hd E' L' hE hL => r_sliceE (α := T_session_Session) (m := k + x2.length) (h := (k + (x0.length + x2.length - k))) Try.underlying37 ty138 (look_t (hE _ _ rfl)) (.some (look_t (hE _ _ rfl))) .none hw2 rfl ⟨by omega, by omega⟩
    · exact hd_v rfl rfl rfl fun hd E' L' hE hL => r_move (look_t (hE _ _ rfl))
    · exact hd_v rfl rfl rfl fun hd E' L' hE hL => r_move (look_t (hE _ _ rfl))
    · exact hd_v rfl rfl rfl fun hd E' L' hE hL => r_sliceE (α := T_session_Session) (m := k) (h := x0.length) Try.underlying37 ty138 (look_t (hE _ _ rfl)) (.some (look_t (hE _ _ rfl))) .none rfl rfl ⟨by omega, by omega⟩
    · intro hd E' L' hE hL
      have h0 := hL 0 _ rfl rfl
      rw [e1] at h0
      refine Sq.copyG (i := 0) (p := q1) (off := (k + x2.length) * Rp.size T_session_Session) (T := 138) (vs := (x0.drop k).take (x0.length - k)) (N := x0.length - k) (dLen := (k + (x0.length + x2.length - k)) - (k + x2.length)) (dCap := cap1 - (k + x2.length)) Try.underlying37 ty138 (by rw [← vslv_at (p := q1) (lo := k + x2.length) (cap := cap1) (size := Rp.size T_session_Session) (by omega)]; exact look_t (hE _ _ rfl)) (src_own (i := 1) (look_t (hE _ _ rfl)) (hL 1 _ rfl rfl) (by omega) (by omega)) (by rw [show ((x0.drop k).take (x0.length - k)).length = x0.length - k by simp]; exact Nat.min_eq_left (by omega)) h0 rfl (fun A W o cells h h' => row_part (by simp; omega) h h') ?_
      refine Sq.nil ?_
      exact To.fin (gm []) rfl rfl
    have e2 : ((x0.take k ++ x2 ++ List.replicate (x0.length - k) (default : T_session_Session)).take (k + x2.length) ++ (x0.drop k).take (x0.length - k) ++ (x0.take k ++ x2 ++ List.replicate (x0.length - k) (default : T_session_Session)).drop (k + x2.length + ((x0.drop k).take (x0.length - k)).length)) = x0.take k ++ x2 ++ x0.drop k := by
      have hk' : (x0.take k ++ x2).length = k + x2.length := by simp; omega
      have hk2 : (x0.drop k).take (x0.length - k) = x0.drop k := List.take_of_length_le (by simp)
      have hk3 : (x0.take k ++ x2 ++ List.replicate (x0.length - k) (default : T_session_Session)).drop (k + x2.length + (x0.drop k).length) = [] := List.drop_eq_nil_of_le (by rw [List.length_append, hk', List.length_replicate, List.length_drop]; omega)
      rw [hk2, List.take_left' hk', hk3, List.append_nil]
    refine To.eqL (L2 := [⟨some q1, .row 138 ((x0.take k ++ x2 ++ List.replicate (x0.length - k) (default : T_session_Session)).take (k + x2.length) ++ (x0.drop k).take (x0.length - k) ++ (x0.take k ++ x2 ++ List.replicate (x0.length - k) (default : T_session_Session)).drop (k + x2.length + ((x0.drop k).take (x0.length - k)).length)) cap1⟩, ⟨some p, .row 138 x0 cap00⟩, ⟨some q, .row 138 x2 cap02⟩]) rfl ?_
    rw [e2]
    refine To.le (E' := [(9, VP.eq (slv (some q1) (k + (x0.length + x2.length - k)) cap1))]) (.same rfl .nil) ?_
    refine To.next ?_
    refine Wp.seq ?_
    refine Wp.reg ?_
    refine Sq.v (r_move (look_t rfl)) rfl rfl rfl ?_
    refine Sq.v (r_asg (look_t rfl)) rfl rfl rfl ?_
    refine Sq.nil ?_
    refine To.next ?_
    refine Wp.ret ?_
    have e3 : k + (x0.length + x2.length - k) = (x0.take k ++ x2 ++ x0.drop k).length := by simp; omega
    rw [e3]
    exact To.endO1 (some q1, cap1) (.cons_cons _ (List.nil_sublist _)) rfl rfl (rvo_t rfl)
  have hroom : x0.length + x2.length ≤ cap00 := by rw [hw] at hc2; simp only [decide_eq_false_iff_not] at hc2; omega
  have hml : maxLen = 9223372036854775807 := rfl
  have hw2 : w64 ((k : Int) + (x2.length : Int)) = ((k + x2.length : Nat) : Int) := by rw [w64_in (by omega) (by omega)]; simp
  refine Wp.skip ?_
  refine To.next ?_
  refine Wp.seq ?_
  refine Wp.reg ?_
  refine Sq.v (r_move (look_t rfl)) rfl rfl rfl ?_
  refine Sq.v (r_move (look_t rfl)) rfl rfl rfl ?_
  refine Sq.v (r_move (look_t rfl)) rfl rfl rfl ?_
  refine Sq.v (r_add (look_t rfl) (look_t rfl)) rfl rfl rfl ?_
  refine Sq.v (r_sliceE (α := T_session_Session) (m := 0) (h := x0.length + x2.length) Try.underlying37 ty138 (look_t rfl) .none (.some (look_t rfl)) rfl hw ⟨by omega, by omega⟩) rfl rfl rfl ?_
  refine Sq.v (r_asg (look_t rfl)) rfl rfl rfl ?_
  refine Sq.nil ?_
  refine To.next ?_
  refine Wp.seq ?_
  refine Wp.seq ?_
  refine Wp.reg ?_
  refine Sq.v (r_move (look_t rfl)) rfl rfl rfl ?_
  refine Sq.v (r_move (look_t rfl)) rfl rfl rfl ?_
  refine Sq.v (r_move (look_t rfl)) rfl rfl rfl ?_
  refine Sq.v (r_move (look_t rfl)) rfl rfl rfl ?_
  refine Sq.v (r_add (look_t rfl) (look_t rfl)) rfl rfl rfl ?_
  refine Sq.v (r_sliceE (α := T_session_Session) (p := p) (n := x0.length + x2.length) (cap := cap00) (m := k + x2.length) (h := x0.length + x2.length) Try.underlying37 ty138 (look_z (size := Rp.size T_session_Session) (look_t rfl)) (.some (look_t rfl)) .none hw2 rfl ⟨by omega, by omega⟩) rfl rfl rfl ?_
  refine Sq.v (r_ovl (α := T_session_Session) (p := p) (q := q) (T := 138) (U := 138) (xs := x0) (vs := x2) (cap := cap00) (cap' := cap02) (i := 0) (j := 1) (tR := 4) (by kernel_rfl) Try.func135 (by kernel_rfl) (by kernel_rfl) (by kernel_rfl) (by kernel_rfl) Try.underlying37 ty138 (look_t rfl) (look_a (p := p) (lo := k + x2.length) (cap := cap00) (size := Rp.size T_session_Session) (by omega) (look_t rfl)) rfl rfl hpq (by omega)) rfl rfl rfl ?_
  refine Sq.v (r_not (look_t rfl)) rfl rfl rfl ?_
  refine Sq.nil ?_
  refine To.next ?_
  refine Wp.cond (look_t rfl) (fun _ => ?_) (fun hc3 => by cases hc3)
  · have hs0 : (x0.length + x2.length - 0) = x0.length + x2.length := by omega
    have hdt : (x0.drop k).take (x0.length - k) = x0.drop k := List.take_of_length_le (by simp)
    refine Wp.seq ?_
    refine Wp.le (E' := [(0, VP.eq (vslv (some p) 0 (x0.length + x2.length - 0) cap00 (Rp.size T_session_Session))), (1, VP.of (k : Int)), (2, VP.eq (slv (some q) x2.length cap02)), (7, VP.of (x2.length : Int))]) (.same rfl (.same rfl (.same rfl (.same rfl .nil)))) ?_
    refine Wp.drawD mixed (⟨some 69, [], [], [], fun _ => VP.eq (vslv (some p) 0 (x0.length + x2.length - 0) cap00 (Rp.size T_session_Session)), fun _ _ => ⟨none, .dead⟩⟩ :: ⟨some 70, [], [], [], fun _ => VP.of (k : Int), fun _ _ => ⟨none, .dead⟩⟩ :: ⟨some 71, [], [], [], fun _ => VP.of (x2.length : Int), fun _ _ => ⟨none, .dead⟩⟩ :: ⟨some 72, (1 :: 2 :: []), [], [], fun _ => VP.of (w64 ((k : Int) + (x2.length : Int))), fun _ _ => ⟨none, .dead⟩⟩ :: ⟨some 73, (0 :: 3 :: []), [], [], fun _ => VP.eq (vslv (some p) (k + x2.length) (x0.length + x2.length - (k + x2.length)) cap00 (Rp.size T_session_Session)), fun _ _ => ⟨none, .dead⟩⟩ :: ⟨some 74, [], [], [], fun _ => VP.eq (vslv (some p) 0 (x0.length + x2.length - 0) cap00 (Rp.size T_session_Session)), fun _ _ => ⟨none, .dead⟩⟩ :: ⟨some 75, [], [], [], fun _ => VP.of (k : Int), fun _ _ => ⟨none, .dead⟩⟩ :: ⟨some 76, (5 :: 6 :: []), [], [], fun _ => VP.eq (vslv (some p) k (x0.length + x2.length - k) cap00 (Rp.size T_session_Session)), fun _ _ => ⟨none, .dead⟩⟩ :: ⟨some 77, (4 :: 7 :: []), (0 :: []), (0 :: []), fun _ => VP.of ((((x0.drop k).take (x0.length - k)).length : Nat) : Int), fun _ _ => ⟨some p, .gap 138 x0 k x2.length cap00⟩⟩ :: []) ((some 69, [], [], []) :: (some 70, [], [], []) :: (some 71, [], [], []) :: (some 72, (1 :: 2 :: []), [], []) :: (some 73, (0 :: 3 :: []), [], []) :: (some 74, [], [], []) :: (some 75, [], [], []) :: (some 76, (5 :: 6 :: []), [], []) :: (some 77, (4 :: 7 :: []), (0 :: []), (0 :: [])) :: []) (0 :: 1 :: 2 :: 7 :: []) rfl rfl (by kernel_rfl) ⟨?_, ?_, ?_, ?_, ?_, ?_, ?_, ?_, ?_, trivial⟩ fun hd => ?_
    · exact hd_v rfl rfl rfl fun hd E' L' hE hL => r_move (look_t (hE _ _ rfl))
    · exact hd_v rfl rfl rfl fun hd E' L' hE hL => r_move (look_t (hE _ _ rfl))
    · exact hd_v rfl rfl rfl fun hd E' L' hE hL => r_move (look_t (hE _ _ rfl))
    · exact hd_v rfl rfl rfl fun hd E' L' hE hL => r_add (look_t (hE _ _ rfl)) (look_t (hE _ _ rfl))
    · exact hd_v rfl rfl rfl fun hd E' L' hE hL => r_sliceE (α := T_session_Session) (n := x0.length + x2.length) (m := k + x2.length) (h := x0.length + x2.length) Try.underlying37 ty138 (look_z (size := Rp.size T_session_Session) (look_t (hE _ _ rfl))) (.some (look_t (hE _ _ rfl))) .none hw2 rfl ⟨by omega, by omega⟩
    · exact hd_v rfl rfl rfl fun hd E' L' hE hL => r_move (look_t (hE _ _ rfl))
    · exact hd_v rfl rfl rfl fun hd E' L' hE hL => r_move (look_t (hE _ _ rfl))
    · exact hd_v rfl rfl rfl fun hd E' L' hE hL => r_sliceE (α := T_session_Session) (n := x0.length + x2.length) (m := k) (h := x0.length + x2.length) Try.underlying37 ty138 (look_z (size := Rp.size T_session_Session) (look_t (hE _ _ rfl))) (.some (look_t (hE _ _ rfl))) .none rfl rfl ⟨by omega, by omega⟩
    · intro hd E' L' hE hL
      have h0 := hL 0 _ rfl rfl
      refine Sq.copyG (i := 0) (p := p) (off := (k + x2.length) * Rp.size T_session_Session) (T := 138) (vs := (x0.drop k).take (x0.length - k)) (N := x0.length + x2.length - k) (dLen := x0.length + x2.length - (k + x2.length)) (dCap := cap00 - (k + x2.length)) (cp' := .gap 138 x0 k x2.length cap00) Try.underlying37 ty138 (look_a (p := p) (lo := k + x2.length) (cap := cap00) (size := Rp.size T_session_Session) (by omega) (look_t (hE _ _ rfl))) (src_own (i := 0) (look_t (hE _ _ rfl)) h0 (by omega) (by omega)) (by rw [hdt]; rw [show (x0.drop k).length = x0.length + x2.length - (k + x2.length) by simp; omega]; exact Nat.min_eq_right (by omega)) h0 rfl (fun A W o cells h h' => gap_new hk hroom h (by rw [← hdt]; exact h')) ?_
      refine Sq.nil ?_
      exact To.fin (gm []) rfl rfl
    refine To.eqL (L2 := [⟨some p, .gap 138 x0 k x2.length cap00⟩, ⟨some q, .row 138 x2 cap02⟩]) rfl ?_
    refine To.le (E' := [(0, VP.eq (vslv (some p) 0 (x0.length + x2.length - 0) cap00 (Rp.size T_session_Session))), (1, VP.of (k : Int)), (2, VP.eq (slv (some q) x2.length cap02))]) (.same rfl (.same rfl (.same rfl .nil))) ?_
    refine To.next ?_
    refine Wp.seq ?_
    refine Wp.reg ?_
    refine Sq.v (r_move (look_t rfl)) rfl rfl rfl ?_
    refine Sq.v (r_move (look_t rfl)) rfl rfl rfl ?_
    refine Sq.v (r_sliceE (α := T_session_Session) (n := x0.length + x2.length) (m := k) (h := x0.length + x2.length) Try.underlying37 ty138 (look_z (size := Rp.size T_session_Session) (look_t rfl)) (.some (look_t rfl)) .none rfl rfl ⟨by omega, by omega⟩) rfl rfl rfl ?_
    refine Sq.v (r_move (look_t rfl)) rfl rfl rfl ?_
    refine Sq.copyG (i := 0) (p := p) (off := k * Rp.size T_session_Session) (dLen := x0.length + x2.length - k) (dCap := cap00 - k) (N := x2.length) (vs := x2) (T := 138) (cp' := .row 138 (x0.take k ++ x2 ++ x0.drop k) cap00) Try.underlying37 ty138 (look_a (p := p) (lo := k) (cap := cap00) (size := Rp.size T_session_Session) (by omega) (look_t rfl)) (src_row (i := 1) (look_t rfl) rfl hv) (Nat.min_eq_left (by omega)) rfl rfl (fun A W o cells h h' => gap_fill hk h h') ?_
    refine Sq.nil ?_
    refine To.next ?_
    refine Wp.seq ?_
    refine Wp.reg ?_
    refine Sq.v (r_move (look_t rfl)) rfl rfl rfl ?_
    refine Sq.v (r_asg (look_t rfl)) rfl rfl rfl ?_
    refine Sq.nil ?_
    refine To.next ?_
    refine Wp.ret ?_
    have e3 : x0.length + x2.length - 0 = (x0.take k ++ x2 ++ x0.drop k).length := by simp; omega
    rw [vslv_zero, e3]
    exact To.endO1 (some p, cap00) (.cons_cons _ (List.nil_sublist _)) rfl rfl (rvo_t rfl)
end Go.Proofs.Ytodajdohokmjnaa
