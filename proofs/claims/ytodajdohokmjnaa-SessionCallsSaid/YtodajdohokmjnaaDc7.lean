/-
  Printed by the decompiler (dec.py) out of the seat's translation. Each function meets its functional program. Conditions: none.
-/
import Derived.Test.YtodajdohokmjnaaDc0
import Derived.Test.YtodajdohokmjnaaDc1
namespace Go.Proofs.Ytodajdohokmjnaa
open Go Gv
set_option linter.unusedVariables false
set_option linter.unusedSimpArgs false
set_option maxRecDepth 100000
set_option maxHeartbeats 2000000 in
theorem Cp0_slices_DeleteFunc_session_Session {x0 : List T_session_Session} {x1 : T_session_Session → Option Bool} {key00 : Option Nat} {cap00 : Nat} {r : (List T_session_Session)} (h : Lp0_slices_DeleteFunc_session_Session x0 x1 = some r) : MeetsO Try.prog 57 [VP.eq (slv key00 x0.length cap00), VP.fn1 Try.prog x1] [⟨key00, .row 138 (x0 : List T_session_Session) cap00⟩] (δ := Unit) (fun d => VP.of (r)) (fun d => []) := by
  unfold Lp0_slices_DeleteFunc_session_Session at h
  refine MeetsO.of Try.func57 rfl Try.ntmps57 rfl fun W A => ?_
  refine Wp.seq ?_
  refine Wp.reg ?_
  refine Sq.v (r_asg (look_nil (α := T_session_Session))) rfl rfl rfl ?_
  refine Sq.nil ?_
  refine To.next ?_
  refine Wp.seq ?_
  refine Wp.reg ?_
  refine Sq.v (r_move (look_t rfl)) rfl rfl rfl ?_
  refine Sq.v (r_move (look_t rfl)) rfl rfl rfl ?_
  obtain ⟨y1, hy1, h⟩ := bind_some h
  refine Sq.v (HR.lend (α := T_session_Session) 0 8 rfl rfl flat_int (r_call en96 (C_slices_IndexFunc_session_Session hy1) ⟨look_t rfl, look_t rfl, trivial⟩)) rfl rfl rfl ?_
  refine Sq.v (r_asg (look_t rfl)) rfl rfl rfl ?_
  refine Sq.nil ?_
  refine To.next ?_
  refine Wp.seq ?_
  refine Wp.seq ?_
  refine Wp.reg ?_
  refine Sq.v (r_move (look_t rfl)) rfl rfl rfl ?_
  refine Sq.v (r_eql (look_t rfl) (look_int (-1))) rfl rfl rfl ?_
  refine Sq.nil ?_
  refine To.next ?_
  refine Wp.cond (look_t rfl) (fun hc => ?_) (fun hc => ?_)
  · replace h := cond_t hc h
    refine Wp.seq ?_
    refine Wp.reg ?_
    refine Sq.v (r_move (look_t rfl)) rfl rfl rfl ?_
    refine Sq.v (r_asg (look_t rfl)) rfl rfl rfl ?_
    refine Sq.nil ?_
    refine To.next ?_
    refine Wp.ret ?_
    refine To.ret ?_
    refine To.freezeL (α := T_session_Session) 0 [4, 0, 8, 13] ⟨rfl, rfl, rfl, rfl, trivial⟩ rfl ?_
    replace h := some_in h
    subst h
    exact To.endO1 () (List.nil_sublist _) rfl rfl (rvo_t rfl)
  · replace h := cond_f hc h
    refine Wp.skip ?_
    refine To.next ?_
    refine Wp.seq ?_
    refine Wp.seq ?_
    refine Wp.reg ?_
    refine Sq.v (r_move (look_t rfl)) rfl rfl rfl ?_
    refine Sq.v (r_add (look_t rfl) (look_int 1)) rfl rfl rfl ?_
    refine Sq.v (r_asg (look_t rfl)) rfl rfl rfl ?_
    refine Sq.nil ?_
    refine To.next ?_
    refine Wp.block ?_
    obtain ⟨e1, hl, h⟩ := bind_some h
    refine Wp.loopG (σ := Int × Int × (List T_session_Session)) (ε := (Int × Int × Bool × (List T_session_Session))) (γ := (Option Nat × Nat)) (δ := (Option Nat × Nat)) hl (fun s1 g1 => [(0, VP.eq (slv g1.1 s1.2.2.length g1.2)), (1, VP.fn1 Try.prog x1), (4, VP.of ([] : List T_session_Session)), (5, VP.of (s1.1)), (6, VP.of (s1.2.1)), (12, VP.of (y1 == (-1)))]) (fun s1 g1 => [⟨g1.1, .row 138 (s1.2.2 : List T_session_Session) g1.2⟩]) (fun q1 => Exit.exit 0) (fun q1 g1 => [(0, VP.eq (slv g1.1 q1.2.2.2.length g1.2)), (1, VP.fn1 Try.prog x1), (4, VP.of ([] : List T_session_Session)), (5, VP.of (q1.1)), (6, VP.of (q1.2.1)), (12, VP.of (y1 == (-1))), (19, VP.of (q1.2.2.1))]) (fun q1 g1 => [⟨g1.1, .row 138 (q1.2.2.2 : List T_session_Session) g1.2⟩]) (key00, cap00) rfl (.same rfl (.same rfl (.same rfl (.same rfl (.same rfl (.same rfl .nil)))))) (fun s1 r h g1 => ?_) (fun g1 => ?_)
    · clear hl
      refine Wp.seq ?_
      refine Wp.seq ?_
      refine Wp.reg ?_
      refine Sq.v (r_move (look_t rfl)) rfl rfl rfl ?_
      refine Sq.v (r_move (look_t rfl)) rfl rfl rfl ?_
      refine Sq.v (r_lenO (i := 0) Try.underlying37 (look_t rfl) rfl rfl) rfl rfl rfl ?_
      refine Sq.v (r_lss (look_t rfl) (look_t rfl)) rfl rfl rfl ?_
      refine Sq.nil ?_
      refine To.next ?_
      refine Wp.cond (look_t rfl) (fun hc => ?_) (fun hc => ?_)
      · replace h := cond_t hc h
        refine Wp.skip ?_
        refine To.next ?_
        refine Wp.seq ?_
        refine Wp.block ?_
        refine Wp.seq ?_
        refine Wp.reg ?_
        refine Sq.v (r_move (look_t rfl)) rfl rfl rfl ?_
        refine Sq.v (r_move (look_t rfl)) rfl rfl rfl ?_
        obtain ⟨k1, hk1, h⟩ := bind_some h
        refine Sq.v (r_iaO (i := 0) (k := k1) (xs := (s1.2.2 : List T_session_Session)) Try.underlying37 ty138 (look_t rfl) (look_t rfl) rfl (idx_some hk1)) rfl rfl rfl ?_
        refine Sq.v (r_loadR (i := 0) (k := k1) (Lens.id T_session_Session) (r := (lget s1.2.2 k1)) ty138 (look_t rfl) rfl (idx_some hk1).1 rfl rfl) rfl rfl rfl ?_
        refine Sq.alloc zr138 rfl fun p1 => ?_
        refine Sq.store (i := 0) (Lens.id T_session_Session) (v := ((lget s1.2.2 k1) : T_session_Session)) (b' := ((lget s1.2.2 k1) : T_session_Session)) ty138 (look_t rfl) (look_t rfl) rfl rfl rfl ?_
        refine Sq.nil ?_
        refine To.next ?_
        refine Wp.seq ?_
        refine Wp.reg ?_
        refine Sq.v (r_move (look_t rfl)) rfl rfl rfl ?_
        refine Sq.v (r_load (i := 0) (Lens.id T_session_Session) (r := (lget s1.2.2 k1)) ty138 (look_t rfl) rfl rfl rfl) rfl rfl rfl ?_
        obtain ⟨y2, hy2, h⟩ := bind_some h
        refine Sq.v (r_callF1 (look_t rfl) (look_t rfl) hy2) rfl rfl rfl ?_
        refine Sq.v (r_not (look_t rfl)) rfl rfl rfl ?_
        refine Sq.nil ?_
        refine To.next ?_
        obtain ⟨m1, hm1, h⟩ := bind_some h
        refine Wp.condM (γ := (Option Nat × Nat)) (fun g2 => [(0, VP.eq (slv g2.1 m1.2.length g2.2)), (1, VP.fn1 Try.prog x1), (4, VP.of ([] : List T_session_Session)), (5, VP.of (m1.1)), (6, VP.of (s1.2.1)), (7, VP.eq (.pointer (some ⟨p1, 0, none⟩))), (12, VP.of (y1 == (-1))), (19, VP.of (decide (s1.2.1 < (s1.2.2.length : Int)))), (29, VP.of (!y2))]) (fun g2 => [⟨some p1, .var ((lget s1.2.2 k1) : T_session_Session)⟩, ⟨g2.1, .row 138 (m1.2 : List T_session_Session) g2.2⟩]) (look_t rfl) (fun g2 => ?_) (fun hm hc => ?_) (fun hm hc => ?_)
        · clear hm1
          refine To.bnorm ?_
          refine To.next ?_
          refine Wp.reg ?_
          refine Sq.v (r_move (look_t rfl)) rfl rfl rfl ?_
          refine Sq.v (r_add (look_t rfl) (look_int 1)) rfl rfl rfl ?_
          refine Sq.v (r_asg (look_t rfl)) rfl rfl rfl ?_
          refine Sq.nil ?_
          replace h := some_in h
          subst h
          exact To.roundG (g2.1, g2.2) 1 rfl (.same rfl (.same rfl (.same rfl (.same rfl (.same rfl (.same rfl .nil))))))
        · have h := cond_t hc hm1
          refine Wp.seq ?_
          refine Wp.reg ?_
          refine Sq.v (r_move (look_t rfl)) rfl rfl rfl ?_
          refine Sq.v (r_move (look_t rfl)) rfl rfl rfl ?_
          refine Sq.v (r_load (i := 0) (Lens.id T_session_Session) (r := (lget s1.2.2 k1)) ty138 (look_t rfl) rfl rfl rfl) rfl rfl rfl ?_
          obtain ⟨k2, hk2, h⟩ := bind_some h
          refine Sq.v (r_iaO (i := 1) (k := k2) (xs := (s1.2.2 : List T_session_Session)) Try.underlying37 ty138 (look_t rfl) (look_t rfl) rfl (idx_some hk2)) rfl rfl rfl ?_
          refine Sq.storeR (i := 1) (k := k2) (Lens.id T_session_Session) (v := ((lget s1.2.2 k1) : T_session_Session)) (r := (lset s1.2.2 k2 (lget s1.2.2 k1) : List T_session_Session)) ty138 (look_t rfl) (look_t rfl) rfl (idx_some hk2).1 rfl rfl ?_
          refine Sq.relen (m := (lset s1.2.2 k2 (lget s1.2.2 k1)).length) 0 rfl (lset_len rfl) ?_
          refine Sq.relen (m := (lset s1.2.2 k2 (lget s1.2.2 k1)).length) 17 rfl (lset_len rfl) ?_
          refine Sq.relen (m := (lset s1.2.2 k2 (lget s1.2.2 k1)).length) 22 rfl (lset_len rfl) ?_
          refine Sq.relen (m := (lset s1.2.2 k2 (lget s1.2.2 k1)).length) 30 rfl (lset_len rfl) ?_
          refine Sq.nil ?_
          refine To.next ?_
          refine Wp.reg ?_
          refine Sq.v (r_move (look_t rfl)) rfl rfl rfl ?_
          refine Sq.v (r_add (look_t rfl) (look_int 1)) rfl rfl rfl ?_
          refine Sq.v (r_asg (look_t rfl)) rfl rfl rfl ?_
          refine Sq.nil ?_
          replace h := some_in h
          subst h
          exact To.meet 0 rfl (.same rfl (.same rfl (.same rfl (.same rfl (.same rfl (.same rfl (.same rfl (.same rfl (.same rfl .nil))))))))) (hm (g1.1, g1.2))
        · have h := cond_f hc hm1
          refine Wp.skip ?_
          replace h := some_in h
          subst h
          exact To.meet 0 rfl (.same rfl (.same rfl (.same rfl (.same rfl (.same rfl (.same rfl (.same rfl (.same rfl (.same rfl .nil))))))))) (hm (g1.1, g1.2))
      · replace h := cond_f hc h
        refine Wp.exit ?_
        refine To.exit ?_
        replace h := some_in h
        subst h
        exact To.leaveG (g1.1, g1.2) 0 rfl (by simp) rfl (.same rfl (.same rfl (.same rfl (.same rfl (.same rfl (.same rfl (.same rfl .nil)))))))
    · clear hl
      refine To.bexit ?_
      refine To.next ?_
      refine Wp.seq ?_
      refine Wp.reg ?_
      refine Sq.v (r_move (look_t rfl)) rfl rfl rfl ?_
      refine Sq.v (r_move (look_t rfl)) rfl rfl rfl ?_
      obtain ⟨y3, hy3, h⟩ := bind_some h
      refine Sq.v (r_sliceO (i := 0) (xs := (e1.2.2.2 : List T_session_Session)) (m := y3.1) (n := y3.2) Try.underlying37 ty138 (look_t rfl) rfl (.some (look_t rfl)) .none (cutM_some hy3).1 (cutM_some hy3).2.1 (cutM_some hy3).2.2) rfl rfl rfl ?_
      obtain ⟨z1, hz1, h⟩ := bind_some h
      refine Sq.clear (i := 0) (r := z1) Try.underlying37 ty138 zr138 rfl (look_t rfl) rfl (by have := (cutM_some hy3).2.2; omega) (some_in hz1) ?_
      refine Sq.relen (m := z1.length) 0 rfl (lclear_len (by have := (cutM_some hy3).2.2; omega) (some_in hz1)) ?_
      refine Sq.relen (m := z1.length) 36 rfl (lclear_len (by have := (cutM_some hy3).2.2; omega) (some_in hz1)) ?_
      refine Sq.nil ?_
      refine To.next ?_
      refine Wp.seq ?_
      refine Wp.reg ?_
      refine Sq.v (r_move (look_t rfl)) rfl rfl rfl ?_
      refine Sq.v (r_move (look_t rfl)) rfl rfl rfl ?_
      obtain ⟨k3, hk3, h⟩ := bind_some h
      refine Sq.v (r_sliceO (i := 0) (xs := (z1 : List T_session_Session)) (m := 0) (n := k3) Try.underlying37 ty138 (look_t rfl) rfl .none (.some (look_t rfl)) rfl (idx_some hk3).2 ⟨Nat.zero_le _, Nat.le_of_lt_succ (idx_some hk3).1⟩) rfl rfl rfl ?_
      obtain ⟨z2, hz2, h⟩ := bind_some h
      refine Sq.trunc (i := 0) (n := k3) (xs := (z1 : List T_session_Session)) (r := z2) 41 rfl rfl (Nat.le_of_lt_succ (idx_some hk3).1) (some_in hz2) ?_
      refine Sq.v (r_asg (look_t rfl)) rfl rfl rfl ?_
      refine Sq.nil ?_
      refine To.next ?_
      refine Wp.ret ?_
      refine To.freezeL (α := T_session_Session) 0 [4, 41] ⟨rfl, rfl, trivial⟩ rfl ?_
      replace h := some_in h
      subst h
      exact To.endO1 () (List.nil_sublist _) rfl rfl (rvo_t rfl)
set_option maxHeartbeats 2000000 in
theorem C_ref20_Leave {x0 : T_ref20_State} {x1 : Int}  {r : T_ref20_State × Int} (h : L_ref20_Leave x0 x1 = some r) : Meets Try.prog 16 [VP.of (x0), VP.of (x1)] (VP.tup [VP.of (r.1), VP.of (r.2)]) := by
  unfold L_ref20_Leave at h
  refine Meets.of Try.func16 rfl Try.ntmps16 rfl fun W A => ?_
  refine Wp.seq ?_
  refine Wp.reg ?_
  refine Sq.box (z := (x0 : T_ref20_State)) (look_t rfl) rfl fun p1 => ?_
  refine Sq.alloc zr44 rfl fun p2 => ?_
  refine Sq.v (r_asg (look_int 0)) rfl rfl rfl ?_
  refine Sq.nil ?_
  refine To.next ?_
  refine Wp.seq ?_
  refine Wp.seq ?_
  refine Wp.reg ?_
  refine Sq.v (r_move (look_t rfl)) rfl rfl rfl ?_
  refine Sq.v (r_lss (look_t rfl) (look_int 0)) rfl rfl rfl ?_
  refine Sq.v (r_move (look_t rfl)) rfl rfl rfl ?_
  refine Sq.g (fun hb => r_move (look_t rfl)) rfl rfl rfl rfl rfl ?_
  refine Sq.g (fun hb => r_geq (look_tc rfl hb) (look_int 6)) rfl rfl rfl rfl rfl ?_
  refine Sq.v (r_or (look_t rfl) (look_t rfl) (fun h => h)) rfl rfl rfl ?_
  refine Sq.nil ?_
  refine To.next ?_
  refine Wp.cond (look_t rfl) (fun hc => ?_) (fun hc => ?_)
  · replace h := cond_t hc h
    refine Wp.seq ?_
    refine Wp.reg ?_
    refine Sq.v (r_build (b := (default : T_ref20_State)) rfl bu44 zr44 (.nil)) rfl rfl rfl ?_
    refine Sq.store (i := 0) (Lens.id T_ref20_State) (v := ((default : T_ref20_State) : T_ref20_State)) (b' := ((default : T_ref20_State) : T_ref20_State)) ty44 (look_t rfl) (look_t rfl) rfl rfl rfl ?_
    refine Sq.v (r_asg (look_int 4)) rfl rfl rfl ?_
    refine Sq.nil ?_
    refine To.next ?_
    refine Wp.ret ?_
    refine To.ret ?_
    replace h := some_in h
    subst h
    exact To.end2 rfl (rv_c (i := 0) ty44 rfl rfl) (rv_t rfl)
  · replace h := cond_f hc h
    refine Wp.skip ?_
    refine To.next ?_
    refine Wp.seq ?_
    refine Wp.seq ?_
    refine Wp.reg ?_
    refine Sq.v (r_load (i := 1) (Lens.id T_ref20_State) (r := x0) ty44 (look_t rfl) rfl rfl rfl) rfl rfl rfl ?_
    refine Sq.v (r_move (look_t rfl)) rfl rfl rfl ?_
    obtain ⟨y1, hy1, h⟩ := bind_some h
    refine Sq.v (r_call en61 (C_ref20_of hy1) ⟨look_t rfl, look_t rfl, trivial⟩) rfl rfl rfl ?_
    refine Sq.v (r_move (look_t rfl)) rfl rfl rfl ?_
    refine Sq.v (r_ext (look_t rfl) rfl) rfl rfl rfl ?_
    refine Sq.v (r_ext (look_t rfl) rfl) rfl rfl rfl ?_
    refine Sq.alloc zr145 rfl fun p3 => ?_
    refine Sq.store (i := 0) (Lens.id T_ref20_Session) (v := (y1.1 : T_ref20_Session)) (b' := (y1.1 : T_ref20_Session)) ty145 (look_t rfl) (look_t rfl) rfl rfl rfl ?_
    refine Sq.v (r_asg (look_t rfl)) rfl rfl rfl ?_
    refine Sq.nil ?_
    refine To.next ?_
    refine Wp.seq ?_
    refine Wp.reg ?_
    refine Sq.v (r_move (look_t rfl)) rfl rfl rfl ?_
    refine Sq.v (r_not (look_t rfl)) rfl rfl rfl ?_
    refine Sq.nil ?_
    refine To.next ?_
    refine Wp.cond (look_t rfl) (fun hc => ?_) (fun hc => ?_)
    · replace h := cond_t hc h
      refine Wp.seq ?_
      refine Wp.reg ?_
      refine Sq.v (r_build (b := (default : T_ref20_State)) rfl bu44 zr44 (.nil)) rfl rfl rfl ?_
      refine Sq.store (i := 1) (Lens.id T_ref20_State) (v := ((default : T_ref20_State) : T_ref20_State)) (b' := ((default : T_ref20_State) : T_ref20_State)) ty44 (look_t rfl) (look_t rfl) rfl rfl rfl ?_
      refine Sq.v (r_asg (look_int 25)) rfl rfl rfl ?_
      refine Sq.nil ?_
      refine To.next ?_
      refine Wp.ret ?_
      refine To.ret ?_
      replace h := some_in h
      subst h
      exact To.end2 rfl (rv_c (i := 1) ty44 rfl rfl) (rv_t rfl)
    · replace h := cond_f hc h
      refine Wp.skip ?_
      refine To.next ?_
      refine Wp.seq ?_
      refine Wp.reg ?_
      refine Sq.v (r_load (i := 2) (Lens.id T_ref20_State) (r := x0) ty44 (look_t rfl) rfl rfl rfl) rfl rfl rfl ?_
      refine Sq.v (r_move (look_t rfl)) rfl rfl rfl ?_
      obtain ⟨y2, hy2, h⟩ := bind_some h
      refine Sq.v (r_call en62 (C_ref20_without hy2) ⟨look_t rfl, look_t rfl, trivial⟩) rfl rfl rfl ?_
      refine Sq.store (i := 1) (Lens.id T_ref20_State) (v := (y2 : T_ref20_State)) (b' := (y2 : T_ref20_State)) ty44 (look_t rfl) (look_t rfl) rfl rfl rfl ?_
      refine Sq.v (r_asg (look_int 0)) rfl rfl rfl ?_
      refine Sq.nil ?_
      refine To.next ?_
      refine Wp.ret ?_
      replace h := some_in h
      subst h
      exact To.end2 rfl (rv_c (i := 1) ty44 rfl rfl) (rv_t rfl)
set_option maxHeartbeats 2000000 in
theorem C_check_RoleOf {x0 : T_api_Schema} {x1 : Int}  {r : Int} (h : L_check_RoleOf x0 x1 = some r) : Meets Try.prog 64 [VP.of (x0), VP.of (x1)] (VP.of (r)) := by
  unfold L_check_RoleOf at h
  refine Meets.of Try.func64 rfl Try.ntmps64 rfl fun W A => ?_
  refine Wp.seq ?_
  refine Wp.reg ?_
  refine Sq.box (z := (x0 : T_api_Schema)) (look_t rfl) rfl fun p1 => ?_
  refine Sq.box (z := (x1 : Int)) (look_t rfl) rfl fun p2 => ?_
  refine Sq.v (r_asg (look_int 0)) rfl rfl rfl ?_
  refine Sq.nil ?_
  refine To.next ?_
  refine Wp.seq ?_
  refine Wp.reg ?_
  refine Sq.v (r_fa fd33_6 (look_t rfl)) rfl rfl rfl ?_
  refine Sq.v (r_load (i := 1) ((Lens.id T_api_Schema).comp le_T_api_Schema_Roles) (r := x0.f_Roles) ty30 (look_t rfl) rfl rfl rfl) rfl rfl rfl ?_
  refine Sq.share (α := Int) 0 3 rfl rfl ?_
  refine Sq.v (r_clo1 (F := (fun a0 => L_check_RoleOf_fn1 a0 x1)) (τs := [VP.ptr x1]) en99 ⟨look_t rfl, trivial⟩ (fun _ _ h => C_check_RoleOf_fn1 h)) rfl rfl rfl ?_
  obtain ⟨y1, hy1, h⟩ := bind_some h
  refine Sq.v (r_call en98 (C_slices_IndexFunc_api_Role hy1) ⟨look_t rfl, look_t rfl, trivial⟩) rfl rfl rfl ?_
  refine Sq.v (r_asg (look_t rfl)) rfl rfl rfl ?_
  refine Sq.nil ?_
  refine To.next ?_
  refine Wp.ret ?_
  replace h := some_in h
  subst h
  exact To.end1 rfl (rv_t rfl)
set_option maxHeartbeats 2000000 in
theorem C_slices_ContainsFunc_session_Session {x0 : List T_session_Session} {x1 : T_session_Session → Option Bool}  {r : Bool} (h : L_slices_ContainsFunc_session_Session x0 x1 = some r) : Meets Try.prog 65 [VP.of (x0), VP.fn1 Try.prog x1] (VP.of (r)) := by
  unfold L_slices_ContainsFunc_session_Session at h
  refine Meets.of Try.func65 rfl Try.ntmps65 rfl fun W A => ?_
  refine Wp.seq ?_
  refine Wp.reg ?_
  refine Sq.v (r_asg (look_bool false)) rfl rfl rfl ?_
  refine Sq.nil ?_
  refine To.next ?_
  refine Wp.seq ?_
  refine Wp.reg ?_
  refine Sq.v (r_move (look_t rfl)) rfl rfl rfl ?_
  refine Sq.v (r_move (look_t rfl)) rfl rfl rfl ?_
  obtain ⟨y1, hy1, h⟩ := bind_some h
  refine Sq.v (r_call en96 (C_slices_IndexFunc_session_Session hy1) ⟨look_t rfl, look_t rfl, trivial⟩) rfl rfl rfl ?_
  refine Sq.v (r_geq (look_t rfl) (look_int 0)) rfl rfl rfl ?_
  refine Sq.v (r_asg (look_t rfl)) rfl rfl rfl ?_
  refine Sq.nil ?_
  refine To.next ?_
  refine Wp.ret ?_
  replace h := some_in h
  subst h
  exact To.end1 rfl (rv_t rfl)
set_option maxHeartbeats 2000000 in
theorem C_session_top {x0 : T_session_State} {x1 : Int}  {r : T_api_Value} (h : L_session_top x0 x1 = some r) : Meets Try.prog 66 [VP.of (x0), VP.of (x1)] (VP.of (r)) := by
  unfold L_session_top at h
  refine Meets.of Try.func66 rfl Try.ntmps66 rfl fun W A => ?_
  refine Wp.seq ?_
  refine Wp.reg ?_
  refine Sq.box (z := (x0 : T_session_State)) (look_t rfl) rfl fun p1 => ?_
  refine Sq.box (z := (x1 : Int)) (look_t rfl) rfl fun p2 => ?_
  refine Sq.alloc zr47 rfl fun p3 => ?_
  refine Sq.nil ?_
  refine To.next ?_
  refine Wp.seq ?_
  refine Wp.reg ?_
  refine Sq.v (r_fa fd40_1 (look_t rfl)) rfl rfl rfl ?_
  refine Sq.v (r_load (i := 2) ((Lens.id T_session_State).comp le_T_session_State_Tops) (r := x0.f_Tops) ty38 (look_t rfl) rfl rfl rfl) rfl rfl rfl ?_
  refine Sq.share (α := Int) 1 3 rfl rfl ?_
  refine Sq.v (r_clo1 (F := (fun a0 => L_session_top_fn1 a0 x1)) (τs := [VP.ptr x1]) en101 ⟨look_t rfl, trivial⟩ (fun _ _ h => C_session_top_fn1 h)) rfl rfl rfl ?_
  obtain ⟨y1, hy1, h⟩ := bind_some h
  refine Sq.v (r_call en100 (C_slices_IndexFunc_session_Top hy1) ⟨look_t rfl, look_t rfl, trivial⟩) rfl rfl rfl ?_
  refine Sq.v (r_asg (look_t rfl)) rfl rfl rfl ?_
  refine Sq.nil ?_
  refine To.next ?_
  refine Wp.seq ?_
  refine Wp.seq ?_
  refine Wp.reg ?_
  refine Sq.v (r_move (look_t rfl)) rfl rfl rfl ?_
  refine Sq.v (r_lss (look_t rfl) (look_int 0)) rfl rfl rfl ?_
  refine Sq.nil ?_
  refine To.next ?_
  refine Wp.cond (look_t rfl) (fun hc => ?_) (fun hc => ?_)
  · replace h := cond_t hc h
    refine Wp.seq ?_
    refine Wp.reg ?_
    refine Sq.v (r_build (b := (default : T_api_Value)) rfl bu47 zr47 (.nil)) rfl rfl rfl ?_
    refine Sq.store (i := 0) (Lens.id T_api_Value) (v := ((default : T_api_Value) : T_api_Value)) (b' := ((default : T_api_Value) : T_api_Value)) ty47 (look_t rfl) (look_t rfl) rfl rfl rfl ?_
    refine Sq.nil ?_
    refine To.next ?_
    refine Wp.ret ?_
    refine To.ret ?_
    replace h := some_in h
    subst h
    exact To.end1 rfl (rv_c (i := 0) ty47 rfl rfl)
  · replace h := cond_f hc h
    refine Wp.skip ?_
    refine To.next ?_
    refine Wp.seq ?_
    refine Wp.reg ?_
    refine Sq.v (r_fa fd40_1 (look_t rfl)) rfl rfl rfl ?_
    refine Sq.v (r_load (i := 2) ((Lens.id T_session_State).comp le_T_session_State_Tops) (r := x0.f_Tops) ty38 (look_t rfl) rfl rfl rfl) rfl rfl rfl ?_
    refine Sq.v (r_move (look_t rfl)) rfl rfl rfl ?_
    obtain ⟨k1, hk1, h⟩ := bind_some h
    refine Sq.v (r_ias (k := k1) Try.underlying38 ty67 (look_t rfl) (look_t rfl) (idx_some hk1)) rfl rfl rfl ?_
    refine Sq.v (r_fap le_T_session_Top_Election fd67_1 (look_t rfl) rfl rfl) rfl rfl rfl ?_
    refine Sq.v (r_loadp ty47 (look_t rfl)) rfl rfl rfl ?_
    refine Sq.store (i := 0) (Lens.id T_api_Value) (v := ((lget x0.f_Tops k1).f_Election : T_api_Value)) (b' := ((lget x0.f_Tops k1).f_Election : T_api_Value)) ty47 (look_t rfl) (look_t rfl) rfl rfl rfl ?_
    refine Sq.nil ?_
    refine To.next ?_
    refine Wp.ret ?_
    replace h := some_in h
    subst h
    exact To.end1 rfl (rv_c (i := 0) ty47 rfl rfl)
set_option maxHeartbeats 2000000 in
theorem Cop0_slices_DeleteFunc_session_Session {x0 : List T_session_Session} {x1 : T_session_Session → Option Bool} {key00 : Option Nat} {cap00 : Nat} {r : (List T_session_Session)} (h : Lp0_slices_DeleteFunc_session_Session x0 x1 = some r) : MeetsO Try.prog 57 [VP.eq (slv key00 x0.length cap00), VP.fn1 Try.prog x1] [⟨key00, .row 138 (x0 : List T_session_Session) cap00⟩] (δ := (Option Nat × Nat)) (fun d => VP.eq (slv d.1 (r).length d.2)) (fun d => [⟨d.1, .row 138 (r : List T_session_Session) d.2⟩]) := by
  unfold Lp0_slices_DeleteFunc_session_Session at h
  refine MeetsO.of Try.func57 rfl Try.ntmps57 rfl fun W A => ?_
  refine Wp.seq ?_
  refine Wp.reg ?_
  refine Sq.own (α := T_session_Session) 138 ?_
  refine Sq.v (r_asg look_own) rfl rfl rfl ?_
  refine Sq.nil ?_
  refine To.next ?_
  refine Wp.seq ?_
  refine Wp.reg ?_
  refine Sq.v (r_move (look_t rfl)) rfl rfl rfl ?_
  refine Sq.v (r_move (look_t rfl)) rfl rfl rfl ?_
  obtain ⟨y1, hy1, h⟩ := bind_some h
  refine Sq.v (HR.lend (α := T_session_Session) 1 8 rfl rfl flat_int (r_call en96 (C_slices_IndexFunc_session_Session hy1) ⟨look_t rfl, look_t rfl, trivial⟩)) rfl rfl rfl ?_
  refine Sq.v (r_asg (look_t rfl)) rfl rfl rfl ?_
  refine Sq.nil ?_
  refine To.next ?_
  refine Wp.seq ?_
  refine Wp.seq ?_
  refine Wp.reg ?_
  refine Sq.v (r_move (look_t rfl)) rfl rfl rfl ?_
  refine Sq.v (r_eql (look_t rfl) (look_int (-1))) rfl rfl rfl ?_
  refine Sq.nil ?_
  refine To.next ?_
  refine Wp.cond (look_t rfl) (fun hc => ?_) (fun hc => ?_)
  · replace h := cond_t hc h
    refine Wp.seq ?_
    refine Wp.reg ?_
    refine Sq.v (r_move (look_t rfl)) rfl rfl rfl ?_
    refine Sq.v (r_asg (look_t rfl)) rfl rfl rfl ?_
    refine Sq.nil ?_
    refine To.next ?_
    refine Wp.ret ?_
    refine To.ret ?_
    refine To.bring 1 rfl ?_
    replace h := some_in h
    subst h
    exact To.endO1 (key00, cap00) (.cons_cons _ (List.nil_sublist _)) rfl rfl (rvo_t rfl)
  · replace h := cond_f hc h
    refine Wp.skip ?_
    refine To.next ?_
    refine Wp.seq ?_
    refine Wp.seq ?_
    refine Wp.reg ?_
    refine Sq.v (r_move (look_t rfl)) rfl rfl rfl ?_
    refine Sq.v (r_add (look_t rfl) (look_int 1)) rfl rfl rfl ?_
    refine Sq.v (r_asg (look_t rfl)) rfl rfl rfl ?_
    refine Sq.nil ?_
    refine To.next ?_
    refine Wp.block ?_
    obtain ⟨e1, hl, h⟩ := bind_some h
    refine Wp.loopG (σ := Int × Int × (List T_session_Session)) (ε := (Int × Int × Bool × (List T_session_Session))) (γ := (Option Nat × Nat)) (δ := (Option Nat × Nat)) hl (fun s1 g1 => [(0, VP.eq (slv g1.1 s1.2.2.length g1.2)), (1, VP.fn1 Try.prog x1), (4, VP.eq (slv none ([] : List T_session_Session).length 0)), (5, VP.of (s1.1)), (6, VP.of (s1.2.1)), (12, VP.of (y1 == (-1)))]) (fun s1 g1 => [⟨none, .row 138 (([] : List T_session_Session) : List T_session_Session) 0⟩, ⟨g1.1, .row 138 (s1.2.2 : List T_session_Session) g1.2⟩]) (fun q1 => Exit.exit 0) (fun q1 g1 => [(0, VP.eq (slv g1.1 q1.2.2.2.length g1.2)), (1, VP.fn1 Try.prog x1), (4, VP.eq (slv none ([] : List T_session_Session).length 0)), (5, VP.of (q1.1)), (6, VP.of (q1.2.1)), (12, VP.of (y1 == (-1))), (19, VP.of (q1.2.2.1))]) (fun q1 g1 => [⟨none, .row 138 (([] : List T_session_Session) : List T_session_Session) 0⟩, ⟨g1.1, .row 138 (q1.2.2.2 : List T_session_Session) g1.2⟩]) (key00, cap00) rfl (.same rfl (.same rfl (.same rfl (.same rfl (.same rfl (.same rfl .nil)))))) (fun s1 r h g1 => ?_) (fun g1 => ?_)
    · clear hl
      refine Wp.seq ?_
      refine Wp.seq ?_
      refine Wp.reg ?_
      refine Sq.v (r_move (look_t rfl)) rfl rfl rfl ?_
      refine Sq.v (r_move (look_t rfl)) rfl rfl rfl ?_
      refine Sq.v (r_lenO (i := 1) Try.underlying37 (look_t rfl) rfl rfl) rfl rfl rfl ?_
      refine Sq.v (r_lss (look_t rfl) (look_t rfl)) rfl rfl rfl ?_
      refine Sq.nil ?_
      refine To.next ?_
      refine Wp.cond (look_t rfl) (fun hc => ?_) (fun hc => ?_)
      · replace h := cond_t hc h
        refine Wp.skip ?_
        refine To.next ?_
        refine Wp.seq ?_
        refine Wp.block ?_
        refine Wp.seq ?_
        refine Wp.reg ?_
        refine Sq.v (r_move (look_t rfl)) rfl rfl rfl ?_
        refine Sq.v (r_move (look_t rfl)) rfl rfl rfl ?_
        obtain ⟨k1, hk1, h⟩ := bind_some h
        refine Sq.v (r_iaO (i := 1) (k := k1) (xs := (s1.2.2 : List T_session_Session)) Try.underlying37 ty138 (look_t rfl) (look_t rfl) rfl (idx_some hk1)) rfl rfl rfl ?_
        refine Sq.v (r_loadR (i := 1) (k := k1) (Lens.id T_session_Session) (r := (lget s1.2.2 k1)) ty138 (look_t rfl) rfl (idx_some hk1).1 rfl rfl) rfl rfl rfl ?_
        refine Sq.alloc zr138 rfl fun p1 => ?_
        refine Sq.store (i := 0) (Lens.id T_session_Session) (v := ((lget s1.2.2 k1) : T_session_Session)) (b' := ((lget s1.2.2 k1) : T_session_Session)) ty138 (look_t rfl) (look_t rfl) rfl rfl rfl ?_
        refine Sq.nil ?_
        refine To.next ?_
        refine Wp.seq ?_
        refine Wp.reg ?_
        refine Sq.v (r_move (look_t rfl)) rfl rfl rfl ?_
        refine Sq.v (r_load (i := 0) (Lens.id T_session_Session) (r := (lget s1.2.2 k1)) ty138 (look_t rfl) rfl rfl rfl) rfl rfl rfl ?_
        obtain ⟨y2, hy2, h⟩ := bind_some h
        refine Sq.v (r_callF1 (look_t rfl) (look_t rfl) hy2) rfl rfl rfl ?_
        refine Sq.v (r_not (look_t rfl)) rfl rfl rfl ?_
        refine Sq.nil ?_
        refine To.next ?_
        obtain ⟨m1, hm1, h⟩ := bind_some h
        refine Wp.condM (γ := (Option Nat × Nat)) (fun g2 => [(0, VP.eq (slv g2.1 m1.2.length g2.2)), (1, VP.fn1 Try.prog x1), (4, VP.eq (slv none ([] : List T_session_Session).length 0)), (5, VP.of (m1.1)), (6, VP.of (s1.2.1)), (7, VP.eq (.pointer (some ⟨p1, 0, none⟩))), (12, VP.of (y1 == (-1))), (19, VP.of (decide (s1.2.1 < (s1.2.2.length : Int)))), (29, VP.of (!y2))]) (fun g2 => [⟨some p1, .var ((lget s1.2.2 k1) : T_session_Session)⟩, ⟨none, .row 138 (([] : List T_session_Session) : List T_session_Session) 0⟩, ⟨g2.1, .row 138 (m1.2 : List T_session_Session) g2.2⟩]) (look_t rfl) (fun g2 => ?_) (fun hm hc => ?_) (fun hm hc => ?_)
        · clear hm1
          refine To.bnorm ?_
          refine To.next ?_
          refine Wp.reg ?_
          refine Sq.v (r_move (look_t rfl)) rfl rfl rfl ?_
          refine Sq.v (r_add (look_t rfl) (look_int 1)) rfl rfl rfl ?_
          refine Sq.v (r_asg (look_t rfl)) rfl rfl rfl ?_
          refine Sq.nil ?_
          replace h := some_in h
          subst h
          exact To.roundG (g2.1, g2.2) 1 rfl (.same rfl (.same rfl (.same rfl (.same rfl (.same rfl (.same rfl .nil))))))
        · have h := cond_t hc hm1
          refine Wp.seq ?_
          refine Wp.reg ?_
          refine Sq.v (r_move (look_t rfl)) rfl rfl rfl ?_
          refine Sq.v (r_move (look_t rfl)) rfl rfl rfl ?_
          refine Sq.v (r_load (i := 0) (Lens.id T_session_Session) (r := (lget s1.2.2 k1)) ty138 (look_t rfl) rfl rfl rfl) rfl rfl rfl ?_
          obtain ⟨k2, hk2, h⟩ := bind_some h
          refine Sq.v (r_iaO (i := 2) (k := k2) (xs := (s1.2.2 : List T_session_Session)) Try.underlying37 ty138 (look_t rfl) (look_t rfl) rfl (idx_some hk2)) rfl rfl rfl ?_
          refine Sq.storeR (i := 2) (k := k2) (Lens.id T_session_Session) (v := ((lget s1.2.2 k1) : T_session_Session)) (r := (lset s1.2.2 k2 (lget s1.2.2 k1) : List T_session_Session)) ty138 (look_t rfl) (look_t rfl) rfl (idx_some hk2).1 rfl rfl ?_
          refine Sq.relen (m := (lset s1.2.2 k2 (lget s1.2.2 k1)).length) 0 rfl (lset_len rfl) ?_
          refine Sq.relen (m := (lset s1.2.2 k2 (lget s1.2.2 k1)).length) 17 rfl (lset_len rfl) ?_
          refine Sq.relen (m := (lset s1.2.2 k2 (lget s1.2.2 k1)).length) 22 rfl (lset_len rfl) ?_
          refine Sq.relen (m := (lset s1.2.2 k2 (lget s1.2.2 k1)).length) 30 rfl (lset_len rfl) ?_
          refine Sq.nil ?_
          refine To.next ?_
          refine Wp.reg ?_
          refine Sq.v (r_move (look_t rfl)) rfl rfl rfl ?_
          refine Sq.v (r_add (look_t rfl) (look_int 1)) rfl rfl rfl ?_
          refine Sq.v (r_asg (look_t rfl)) rfl rfl rfl ?_
          refine Sq.nil ?_
          replace h := some_in h
          subst h
          exact To.meet 0 rfl (.same rfl (.same rfl (.same rfl (.same rfl (.same rfl (.same rfl (.same rfl (.same rfl (.same rfl .nil))))))))) (hm (g1.1, g1.2))
        · have h := cond_f hc hm1
          refine Wp.skip ?_
          replace h := some_in h
          subst h
          exact To.meet 0 rfl (.same rfl (.same rfl (.same rfl (.same rfl (.same rfl (.same rfl (.same rfl (.same rfl (.same rfl .nil))))))))) (hm (g1.1, g1.2))
      · replace h := cond_f hc h
        refine Wp.exit ?_
        refine To.exit ?_
        replace h := some_in h
        subst h
        exact To.leaveG (g1.1, g1.2) 0 rfl (by simp) rfl (.same rfl (.same rfl (.same rfl (.same rfl (.same rfl (.same rfl (.same rfl .nil)))))))
    · clear hl
      refine To.bexit ?_
      refine To.next ?_
      refine Wp.seq ?_
      refine Wp.reg ?_
      refine Sq.v (r_move (look_t rfl)) rfl rfl rfl ?_
      refine Sq.v (r_move (look_t rfl)) rfl rfl rfl ?_
      obtain ⟨y3, hy3, h⟩ := bind_some h
      refine Sq.v (r_sliceO (i := 1) (xs := (e1.2.2.2 : List T_session_Session)) (m := y3.1) (n := y3.2) Try.underlying37 ty138 (look_t rfl) rfl (.some (look_t rfl)) .none (cutM_some hy3).1 (cutM_some hy3).2.1 (cutM_some hy3).2.2) rfl rfl rfl ?_
      obtain ⟨z1, hz1, h⟩ := bind_some h
      refine Sq.clear (i := 1) (r := z1) Try.underlying37 ty138 zr138 rfl (look_t rfl) rfl (by have := (cutM_some hy3).2.2; omega) (some_in hz1) ?_
      refine Sq.relen (m := z1.length) 0 rfl (lclear_len (by have := (cutM_some hy3).2.2; omega) (some_in hz1)) ?_
      refine Sq.relen (m := z1.length) 36 rfl (lclear_len (by have := (cutM_some hy3).2.2; omega) (some_in hz1)) ?_
      refine Sq.nil ?_
      refine To.next ?_
      refine Wp.seq ?_
      refine Wp.reg ?_
      refine Sq.v (r_move (look_t rfl)) rfl rfl rfl ?_
      refine Sq.v (r_move (look_t rfl)) rfl rfl rfl ?_
      obtain ⟨k3, hk3, h⟩ := bind_some h
      refine Sq.v (r_sliceO (i := 1) (xs := (z1 : List T_session_Session)) (m := 0) (n := k3) Try.underlying37 ty138 (look_t rfl) rfl .none (.some (look_t rfl)) rfl (idx_some hk3).2 ⟨Nat.zero_le _, Nat.le_of_lt_succ (idx_some hk3).1⟩) rfl rfl rfl ?_
      obtain ⟨z2, hz2, h⟩ := bind_some h
      refine Sq.trunc (i := 1) (n := k3) (xs := (z1 : List T_session_Session)) (r := z2) 41 rfl rfl (Nat.le_of_lt_succ (idx_some hk3).1) (some_in hz2) ?_
      refine Sq.v (r_asg (look_t rfl)) rfl rfl rfl ?_
      refine Sq.nil ?_
      refine To.next ?_
      refine Wp.ret ?_
      refine To.bring 1 rfl ?_
      replace h := some_in h
      subst h
      exact To.endO1 (g1.1, g1.2) (.cons_cons _ (List.nil_sublist _)) rfl rfl (rvo_t rfl)
end Go.Proofs.Ytodajdohokmjnaa
