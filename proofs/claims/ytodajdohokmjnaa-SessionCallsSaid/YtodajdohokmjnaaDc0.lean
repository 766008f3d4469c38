/-
  Printed by the decompiler (dec.py) out of the seat's translation. Each function meets its functional program. Conditions: none.
-/
import Derived.Test.YtodajdohokmjnaaDl
namespace Go.Proofs.Ytodajdohokmjnaa
open Go Gv
set_option linter.unusedVariables false
set_option linter.unusedSimpArgs false
set_option maxRecDepth 100000
set_option maxHeartbeats 2000000 in
theorem C_mcase_New {x0 : List (BitVec 8)} {x1 : Int}  {r : T_mcase_Codes} (h : L_mcase_New x0 x1 = some r) : MeetsO Try.prog 12 [VP.of (x0), VP.of (x1)] [] (δ := Nat) (fun d => VP.eq (.pointer (some ⟨d, 0, none⟩))) (fun d => [⟨some d, .var (r : T_mcase_Codes)⟩]) := by
  unfold L_mcase_New at h
  refine MeetsO.of Try.func12 rfl Try.ntmps12 rfl fun W A => ?_
  refine Wp.seq ?_
  refine Wp.reg ?_
  refine Sq.v (r_asg (look_e (.pointer none))) rfl rfl rfl ?_
  refine Sq.nil ?_
  refine To.next ?_
  refine Wp.seq ?_
  refine Wp.reg ?_
  refine Sq.v (r_move (look_t rfl)) rfl rfl rfl ?_
  refine Sq.v (r_move (look_t rfl)) rfl rfl rfl ?_
  refine Sq.v (r_len Try.underlying22 (look_t rfl)) rfl rfl rfl ?_
  refine Sq.v (r_move (look_t rfl)) rfl rfl rfl ?_
  refine Sq.v (r_min (look_t rfl) (look_t rfl)) rfl rfl rfl ?_
  obtain ⟨y1, hy1, h⟩ := bind_some h
  refine Sq.v (r_slice Try.underlying22 ty5 (look_t rfl) .none (.some (look_t rfl)) hy1) rfl rfl rfl ?_
  refine Sq.v (r_build (b := ({ (default : T_mcase_Codes) with f_l := y1 } : T_mcase_Codes)) rfl bu120 zr120 (.cons le_T_mcase_Codes_l rfl (look_t rfl) rfl (.nil))) rfl rfl rfl ?_
  refine Sq.box (z := (({ (default : T_mcase_Codes) with f_l := y1 } : T_mcase_Codes) : T_mcase_Codes)) (look_t rfl) rfl fun p1 => ?_
  refine Sq.v (r_asg (look_t rfl)) rfl rfl rfl ?_
  refine Sq.nil ?_
  refine To.next ?_
  refine Wp.ret ?_
  refine To.bring 0 rfl ?_
  replace h := some_in h
  subst h
  exact To.endO1 p1 (.cons_cons _ (List.nil_sublist _)) rfl rfl (rvo_t rfl)
set_option maxHeartbeats 2000000 in
theorem C_mcase_Codes_Left {x0 : T_mcase_Codes} {pp0 : Nat} {r : Bool} (h : L_mcase_Codes_Left x0 = some r) : MeetsO Try.prog 76 [VP.eq (.pointer (some ⟨pp0, 0, none⟩))] [⟨some pp0, .var (x0 : T_mcase_Codes)⟩] (δ := Unit) (fun d => VP.of (r)) (fun d => [⟨some pp0, .var (x0 : T_mcase_Codes)⟩]) := by
  unfold L_mcase_Codes_Left at h
  refine MeetsO.of Try.func76 rfl Try.ntmps76 rfl fun W A => ?_
  refine Wp.seq ?_
  refine Wp.reg ?_
  refine Sq.v (r_asg (look_bool false)) rfl rfl rfl ?_
  refine Sq.nil ?_
  refine To.next ?_
  refine Wp.seq ?_
  refine Wp.draw mixed 10 [some 3, some 4, some 5, some 6, some 7, some 8, some 9, some 10, some 11, some 12] [[], [0], [1], [2], [], [4], [5], [6], [7], [3, 8]] [.val (VP.eq (.pointer (some ⟨pp0, 0, none⟩))), .val (VP.eq (.pointer (some ⟨pp0, 0, none⟩))), .val (VP.eq (.pointer (some ⟨pp0, 0 + 1, none⟩))), .val (VP.of (x0.f_at)), .val (VP.eq (.pointer (some ⟨pp0, 0, none⟩))), .val (VP.eq (.pointer (some ⟨pp0, 0, none⟩))), .val (VP.eq (.pointer (some ⟨pp0, 0 + 0, none⟩))), .val (VP.of (x0.f_l)), .val (VP.of (x0.f_l.length : Int)), .val (VP.of (decide (x0.f_at < (x0.f_l.length : Int))))] [false, false, false, false, false, false, false, false, false, false] (by kernel_rfl) rfl rfl rfl (fun ps1 => ⟨fun L' hL => HO.v (r_move (look_t rfl)) rfl, fun L' hL => HO.v (r_nck (look_t rfl)) rfl, fun L' hL => HO.v (r_fa fd120_1 (look_t rfl)) rfl, fun L' hL => HO.v (r_load (i := 0) ((Lens.id T_mcase_Codes).comp le_T_mcase_Codes_at) (r := x0.f_at) ty3 (look_t rfl) (hL _ _ rfl rfl) rfl rfl) rfl, fun L' hL => HO.v (r_move (look_t rfl)) rfl, fun L' hL => HO.v (r_nck (look_t rfl)) rfl, fun L' hL => HO.v (r_fa fd120_0 (look_t rfl)) rfl, fun L' hL => HO.v (r_load (i := 0) ((Lens.id T_mcase_Codes).comp le_T_mcase_Codes_l) (r := x0.f_l) ty22 (look_t rfl) (hL _ _ rfl rfl) rfl rfl) rfl, fun L' hL => HO.v (r_len Try.underlying22 (look_t rfl)) rfl, fun L' hL => HO.v (r_lss (look_t rfl) (look_t rfl)) rfl, trivial⟩) fun ps1 => ?_
  refine Sq.v (r_asg (look_t rfl)) rfl rfl rfl ?_
  refine Sq.nil ?_
  refine To.next ?_
  refine Wp.ret ?_
  refine To.bring 0 rfl ?_
  replace h := some_in h
  subst h
  exact To.endO1 () (.cons_cons _ (List.nil_sublist _)) rfl rfl (rvo_t rfl)
set_option maxHeartbeats 2000000 in
theorem C_mcase_Mod {x0 : Int} {x1 : Int}  {r : Int} (h : L_mcase_Mod x0 x1 = some r) : Meets Try.prog 22 [VP.of (x0), VP.of (x1)] (VP.of (r)) := by
  unfold L_mcase_Mod at h
  refine Meets.of Try.func22 rfl Try.ntmps22 rfl fun W A => ?_
  refine Wp.seq ?_
  refine Wp.reg ?_
  refine Sq.v (r_asg (look_int 0)) rfl rfl rfl ?_
  refine Sq.nil ?_
  refine To.next ?_
  refine Wp.seq ?_
  refine Wp.seq ?_
  refine Wp.reg ?_
  refine Sq.v (r_move (look_t rfl)) rfl rfl rfl ?_
  refine Sq.v (r_lss (look_t rfl) (look_int 1)) rfl rfl rfl ?_
  refine Sq.nil ?_
  refine To.next ?_
  refine Wp.cond (look_t rfl) (fun hc => ?_) (fun hc => ?_)
  · replace h := cond_t hc h
    refine Wp.seq ?_
    refine Wp.reg ?_
    refine Sq.v (r_asg (look_int 0)) rfl rfl rfl ?_
    refine Sq.nil ?_
    refine To.next ?_
    refine Wp.ret ?_
    refine To.ret ?_
    replace h := some_in h
    subst h
    exact To.end1 rfl (rv_t rfl)
  · replace h := cond_f hc h
    refine Wp.skip ?_
    refine To.next ?_
    refine Wp.seq ?_
    refine Wp.reg ?_
    refine Sq.v (r_move (look_t rfl)) rfl rfl rfl ?_
    refine Sq.v (r_move (look_t rfl)) rfl rfl rfl ?_
    obtain ⟨y1, hy1, h⟩ := bind_some h
    refine Sq.v (r_rem (look_t rfl) (look_t rfl) (modM_some hy1)) rfl rfl rfl ?_
    refine Sq.v (r_move (look_t rfl)) rfl rfl rfl ?_
    refine Sq.v (r_add (look_t rfl) (look_t rfl)) rfl rfl rfl ?_
    refine Sq.v (r_move (look_t rfl)) rfl rfl rfl ?_
    obtain ⟨y2, hy2, h⟩ := bind_some h
    refine Sq.v (r_rem (look_t rfl) (look_t rfl) (modM_some hy2)) rfl rfl rfl ?_
    refine Sq.v (r_asg (look_t rfl)) rfl rfl rfl ?_
    refine Sq.nil ?_
    refine To.next ?_
    refine Wp.ret ?_
    replace h := some_in h
    subst h
    exact To.end1 rfl (rv_t rfl)
set_option maxHeartbeats 2000000 in
theorem C_session_controls {x0 : Int}  {r : Bool} (h : L_session_controls x0 = some r) : Meets Try.prog 55 [VP.of (x0)] (VP.of (r)) := by
  unfold L_session_controls at h
  refine Meets.of Try.func55 rfl Try.ntmps55 rfl fun W A => ?_
  refine Wp.seq ?_
  refine Wp.reg ?_
  refine Sq.v (r_asg (look_bool false)) rfl rfl rfl ?_
  refine Sq.nil ?_
  refine To.next ?_
  refine Wp.seq ?_
  refine Wp.reg ?_
  refine Sq.v (r_move (look_t rfl)) rfl rfl rfl ?_
  refine Sq.v (r_geq (look_t rfl) (look_int 0)) rfl rfl rfl ?_
  refine Sq.v (r_move (look_t rfl)) rfl rfl rfl ?_
  refine Sq.g (fun hb => r_move (look_t rfl)) rfl rfl rfl rfl rfl ?_
  refine Sq.g (fun hb => r_lss (look_tc rfl hb) (look_int 6)) rfl rfl rfl rfl rfl ?_
  refine Sq.v (r_and (look_t rfl) (look_t rfl) (fun h => h)) rfl rfl rfl ?_
  refine Sq.v (r_asg (look_t rfl)) rfl rfl rfl ?_
  refine Sq.nil ?_
  refine To.next ?_
  refine Wp.ret ?_
  replace h := some_in h
  subst h
  exact To.end1 rfl (rv_t rfl)
set_option maxHeartbeats 2000000 in
theorem C_session_of_fn1 {x0 : T_session_Session} {x1 : Int}  {r : Bool} (h : L_session_of_fn1 x0 x1 = some r) : Meets Try.prog 97 [VP.of (x0), VP.ptr x1] (VP.of (r)) := by
  unfold L_session_of_fn1 at h
  refine Meets.of Try.func97 rfl Try.ntmps97 rfl fun W A => ?_
  refine Wp.seq ?_
  refine Wp.reg ?_
  refine Sq.box (z := (x0 : T_session_Session)) (look_t rfl) rfl fun p1 => ?_
  refine Sq.v (r_asg (look_bool false)) rfl rfl rfl ?_
  refine Sq.nil ?_
  refine To.next ?_
  refine Wp.seq ?_
  refine Wp.reg ?_
  refine Sq.v (r_fa fd138_0 (look_t rfl)) rfl rfl rfl ?_
  refine Sq.v (r_load (i := 0) ((Lens.id T_session_Session).comp le_T_session_Session_Controller) (r := x0.f_Controller) ty3 (look_t rfl) rfl rfl rfl) rfl rfl rfl ?_
  refine Sq.v (r_loadp ty3 (look_t rfl)) rfl rfl rfl ?_
  refine Sq.v (r_eql (look_t rfl) (look_t rfl)) rfl rfl rfl ?_
  refine Sq.v (r_asg (look_t rfl)) rfl rfl rfl ?_
  refine Sq.nil ?_
  refine To.next ?_
  refine Wp.ret ?_
  replace h := some_in h
  subst h
  exact To.end1 rfl (rv_t rfl)
set_option maxHeartbeats 2000000 in
theorem C_slices_IndexFunc_session_Session {x0 : List T_session_Session} {x1 : T_session_Session → Option Bool}  {r : Int} (h : L_slices_IndexFunc_session_Session x0 x1 = some r) : Meets Try.prog 96 [VP.of (x0), VP.fn1 Try.prog x1] (VP.of (r)) := by
  unfold L_slices_IndexFunc_session_Session at h
  refine Meets.of Try.func96 rfl Try.ntmps96 rfl fun W A => ?_
  refine Wp.seq ?_
  refine Wp.reg ?_
  refine Sq.v (r_asg (look_int 0)) rfl rfl rfl ?_
  refine Sq.nil ?_
  refine To.next ?_
  refine Wp.seq ?_
  refine Wp.seq ?_
  refine Wp.reg ?_
  refine Sq.v (r_move (look_t rfl)) rfl rfl rfl ?_
  refine Sq.v (r_len Try.underlying37 (look_t rfl)) rfl rfl rfl ?_
  refine Sq.v (r_move (look_int 0)) rfl rfl rfl ?_
  refine Sq.nil ?_
  refine To.next ?_
  refine Wp.block ?_
  obtain ⟨e1, hl, h⟩ := bind_some h
  refine Wp.loopG (σ := Int) (ε := (Int × Bool) ⊕ (Int × Int × Int × Bool × Bool)) (γ := Unit) (δ := Unit) hl (fun s1 g1 => [(0, VP.of (x0)), (1, VP.fn1 Try.prog x1), (4, VP.of (0 : Int)), (7, VP.of (x0.length : Int)), (8, VP.of (s1))]) (fun s1 g1 => []) (fun q1 => Sum.elim (fun q1 => Exit.exit 0) (fun q1 => Exit.ret) q1) (fun q1 g1 => Sum.elim (fun q1 => [(0, VP.of (x0)), (1, VP.fn1 Try.prog x1), (4, VP.of (0 : Int)), (7, VP.of (x0.length : Int)), (8, VP.of (q1.1)), (9, VP.of (q1.2))]) (fun q1 => [(0, VP.of (x0)), (1, VP.fn1 Try.prog x1), (4, VP.of (q1.1)), (5, VP.of (q1.2.1)), (7, VP.of (x0.length : Int)), (8, VP.of (q1.2.2.1)), (9, VP.of (q1.2.2.2.1)), (16, VP.of (q1.2.2.2.2))]) q1) (fun q1 g1 => Sum.elim (fun q1 => []) (fun q1 => []) q1) () rfl (.same rfl (.same rfl (.same rfl (.same rfl (.same rfl .nil))))) (fun s1 r h g1 => ?_) (fun g1 => ?_)
  · clear hl
    refine Wp.seq ?_
    refine Wp.reg ?_
    refine Sq.v (r_lss (look_t rfl) (look_t rfl)) rfl rfl rfl ?_
    refine Sq.nil ?_
    refine To.next ?_
    refine Wp.seq ?_
    refine Wp.cond (look_t rfl) (fun hc => ?_) (fun hc => ?_)
    · replace h := cond_t hc h
      refine Wp.skip ?_
      refine To.next ?_
      refine Wp.seq ?_
      refine Wp.block ?_
      refine Wp.seq ?_
      refine Wp.reg ?_
      refine Sq.v (r_move (look_t rfl)) rfl rfl rfl ?_
      refine Sq.v (r_asg (look_t rfl)) rfl rfl rfl ?_
      refine Sq.nil ?_
      refine To.next ?_
      refine Wp.seq ?_
      refine Wp.reg ?_
      refine Sq.v (r_move (look_t rfl)) rfl rfl rfl ?_
      refine Sq.v (r_move (look_t rfl)) rfl rfl rfl ?_
      refine Sq.v (r_move (look_t rfl)) rfl rfl rfl ?_
      obtain ⟨k1, hk1, h⟩ := bind_some h
      refine Sq.v (r_ias (k := k1) Try.underlying37 ty138 (look_t rfl) (look_t rfl) (idx_some hk1)) rfl rfl rfl ?_
      refine Sq.v (r_loadp ty138 (look_t rfl)) rfl rfl rfl ?_
      obtain ⟨y1, hy1, h⟩ := bind_some h
      refine Sq.v (r_callF1 (look_t rfl) (look_t rfl) hy1) rfl rfl rfl ?_
      refine Sq.nil ?_
      refine To.next ?_
      refine Wp.cond (look_t rfl) (fun hc => ?_) (fun hc => ?_)
      · replace h := cond_t hc h
        refine Wp.seq ?_
        refine Wp.reg ?_
        refine Sq.v (r_move (look_t rfl)) rfl rfl rfl ?_
        refine Sq.v (r_asg (look_t rfl)) rfl rfl rfl ?_
        refine Sq.nil ?_
        refine To.next ?_
        refine Wp.ret ?_
        refine To.bret ?_
        refine To.ret ?_
        replace h := some_in h
        subst h
        exact To.leaveG () 0 rfl (by simp) rfl (.same rfl (.same rfl (.same rfl (.same rfl (.same rfl (.same rfl (.same rfl (.same rfl .nil))))))))
      · replace h := cond_f hc h
        refine Wp.skip ?_
        refine To.bnorm ?_
        refine To.next ?_
        refine Wp.reg ?_
        refine Sq.v (r_add (look_t rfl) (look_int 1)) rfl rfl rfl ?_
        refine Sq.v (r_move (look_t rfl)) rfl rfl rfl ?_
        refine Sq.nil ?_
        replace h := some_in h
        subst h
        exact To.roundG () 0 rfl (.same rfl (.same rfl (.same rfl (.same rfl (.same rfl .nil)))))
    · replace h := cond_f hc h
      refine Wp.exit ?_
      refine To.exit ?_
      replace h := some_in h
      subst h
      exact To.leaveG () 0 rfl (by simp) rfl (.same rfl (.same rfl (.same rfl (.same rfl (.same rfl (.same rfl .nil))))))
  · clear hl
    rcases e1 with e1 | e1
    · simp only [Sum.elim_inl] at h
      refine To.bexit ?_
      refine To.next ?_
      refine Wp.seq ?_
      refine Wp.reg ?_
      refine Sq.v (r_asg (look_int (-1))) rfl rfl rfl ?_
      refine Sq.nil ?_
      refine To.next ?_
      refine Wp.ret ?_
      replace h := some_in h
      subst h
      exact To.end1 rfl (rv_t rfl)
    · simp only [Sum.elim_inr] at h
      refine To.bret ?_
      refine To.ret ?_
      replace h := some_in h
      subst h
      exact To.end1 rfl (rv_t rfl)
set_option maxHeartbeats 2000000 in
theorem C_slices_Clone_session_Session {x0 : List T_session_Session}  {r : (List T_session_Session)} (h : L_slices_Clone_session_Session x0 = some r) : Meets Try.prog 58 [VP.of (x0)] (VP.of (r)) := by
  unfold L_slices_Clone_session_Session at h
  refine Meets.of Try.func58 rfl Try.ntmps58 rfl fun W A => ?_
  refine Wp.seq ?_
  refine Wp.reg ?_
  refine Sq.v (r_asg (look_nil (α := T_session_Session))) rfl rfl rfl ?_
  refine Sq.nil ?_
  refine To.next ?_
  refine Wp.seq ?_
  refine Wp.seq ?_
  refine Wp.reg ?_
  refine Sq.v (r_move (look_t rfl)) rfl rfl rfl ?_
  refine Sq.v (r_nil Try.underlying37 (look_t rfl)) rfl rfl rfl ?_
  refine Sq.nil ?_
  refine To.next ?_
  refine Wp.condN (look_t rfl) (fun hx => ?_) ?_
  · subst hx; replace h := clone_nil h; subst h
    have h : some ([] : List T_session_Session) = some [] := rfl
    refine Wp.seq ?_
    refine Wp.reg ?_
    refine Sq.v (r_asg (look_nil (α := T_session_Session))) rfl rfl rfl ?_
    refine Sq.nil ?_
    refine To.next ?_
    refine Wp.ret ?_
    refine To.ret ?_
    replace h := some_in h
    clear h
    exact To.end1 rfl (rv_t rfl)
  · skip
    refine Wp.skip ?_
    refine To.next ?_
    refine Wp.seq ?_
    refine Wp.reg ?_
    refine Sq.bslO (α := T_session_Session) (r := ([] : List T_session_Session)) Try.underlying37 ty138 zr138 rfl rfl (.nil) rfl fun key1 => ?_
    refine Sq.v (r_move (look_t rfl)) rfl rfl rfl ?_
    obtain ⟨y1, hy1, h⟩ := bind_some h
    refine Sq.app (i := 0) Try.underlying37 ty138 zr138 (bytes := 32) (by kernel_rfl) (look_t rfl) rfl (look_t rfl) hy1 rfl fun key2 cap1 => ?_
    refine Sq.v (r_asg (look_t rfl)) rfl rfl rfl ?_
    refine Sq.nil ?_
    refine To.next ?_
    refine Wp.ret ?_
    refine To.freezeL (α := T_session_Session) 0 [2, 7] ⟨rfl, rfl, trivial⟩ rfl ?_
    replace h := some_in h
    subst h
    exact To.end1 rfl (rv_t rfl)
set_option maxHeartbeats 2000000 in
theorem C_session_Leave_fn1 {x0 : T_session_Session} {x1 : Int}  {r : Bool} (h : L_session_Leave_fn1 x0 x1 = some r) : Meets Try.prog 59 [VP.of (x0), VP.ptr x1] (VP.of (r)) := by
  unfold L_session_Leave_fn1 at h
  refine Meets.of Try.func59 rfl Try.ntmps59 rfl fun W A => ?_
  refine Wp.seq ?_
  refine Wp.reg ?_
  refine Sq.box (z := (x0 : T_session_Session)) (look_t rfl) rfl fun p1 => ?_
  refine Sq.v (r_asg (look_bool false)) rfl rfl rfl ?_
  refine Sq.nil ?_
  refine To.next ?_
  refine Wp.seq ?_
  refine Wp.reg ?_
  refine Sq.v (r_fa fd138_0 (look_t rfl)) rfl rfl rfl ?_
  refine Sq.v (r_load (i := 0) ((Lens.id T_session_Session).comp le_T_session_Session_Controller) (r := x0.f_Controller) ty3 (look_t rfl) rfl rfl rfl) rfl rfl rfl ?_
  refine Sq.v (r_loadp ty3 (look_t rfl)) rfl rfl rfl ?_
  refine Sq.v (r_eql (look_t rfl) (look_t rfl)) rfl rfl rfl ?_
  refine Sq.v (r_asg (look_t rfl)) rfl rfl rfl ?_
  refine Sq.nil ?_
  refine To.next ?_
  refine Wp.ret ?_
  replace h := some_in h
  subst h
  exact To.end1 rfl (rv_t rfl)
set_option maxHeartbeats 2000000 in
theorem Co_slices_Clone_session_Session {x0 : List T_session_Session}  {r : (List T_session_Session)} (h : L_slices_Clone_session_Session x0 = some r) : MeetsO Try.prog 58 [VP.of (x0)] [] (δ := (Option Nat × Nat)) (fun d => VP.eq (slv d.1 (r).length d.2)) (fun d => [⟨d.1, .row 138 (r : List T_session_Session) d.2⟩]) := by
  unfold L_slices_Clone_session_Session at h
  refine MeetsO.of Try.func58 rfl Try.ntmps58 rfl fun W A => ?_
  refine Wp.seq ?_
  refine Wp.reg ?_
  refine Sq.own (α := T_session_Session) 138 ?_
  refine Sq.v (r_asg look_own) rfl rfl rfl ?_
  refine Sq.nil ?_
  refine To.next ?_
  refine Wp.seq ?_
  refine Wp.seq ?_
  refine Wp.reg ?_
  refine Sq.v (r_move (look_t rfl)) rfl rfl rfl ?_
  refine Sq.v (r_nil Try.underlying37 (look_t rfl)) rfl rfl rfl ?_
  refine Sq.nil ?_
  refine To.next ?_
  refine Wp.condN (look_t rfl) (fun hx => ?_) ?_
  · subst hx; replace h := clone_nil h; subst h
    have h : some ([] : List T_session_Session) = some [] := rfl
    refine Wp.seq ?_
    refine Wp.reg ?_
    refine Sq.own (α := T_session_Session) 138 ?_
    refine Sq.v (r_asg look_own) rfl rfl rfl ?_
    refine Sq.nil ?_
    refine To.next ?_
    refine Wp.ret ?_
    refine To.ret ?_
    refine To.bring 0 rfl ?_
    replace h := some_in h
    clear h
    exact To.endO1 (none, 0) (.cons_cons _ (List.nil_sublist _)) rfl rfl (rvo_t rfl)
  · skip
    refine Wp.skip ?_
    refine To.next ?_
    refine Wp.seq ?_
    refine Wp.reg ?_
    refine Sq.bslO (α := T_session_Session) (r := ([] : List T_session_Session)) Try.underlying37 ty138 zr138 rfl rfl (.nil) rfl fun key1 => ?_
    refine Sq.v (r_move (look_t rfl)) rfl rfl rfl ?_
    obtain ⟨y1, hy1, h⟩ := bind_some h
    refine Sq.app (i := 0) Try.underlying37 ty138 zr138 (bytes := 32) (by kernel_rfl) (look_t rfl) rfl (look_t rfl) hy1 rfl fun key2 cap1 => ?_
    refine Sq.v (r_asg (look_t rfl)) rfl rfl rfl ?_
    refine Sq.nil ?_
    refine To.next ?_
    refine Wp.ret ?_
    refine To.bring 0 rfl ?_
    replace h := some_in h
    subst h
    exact To.endO1 (key2, cap1) (.cons_cons _ (List.nil_sublist _)) rfl rfl (rvo_t rfl)
set_option maxHeartbeats 2000000 in
theorem C_slices_Clone_session_Top {x0 : List T_session_Top}  {r : (List T_session_Top)} (h : L_slices_Clone_session_Top x0 = some r) : Meets Try.prog 60 [VP.of (x0)] (VP.of (r)) := by
  unfold L_slices_Clone_session_Top at h
  refine Meets.of Try.func60 rfl Try.ntmps60 rfl fun W A => ?_
  refine Wp.seq ?_
  refine Wp.reg ?_
  refine Sq.v (r_asg (look_nil (α := T_session_Top))) rfl rfl rfl ?_
  refine Sq.nil ?_
  refine To.next ?_
  refine Wp.seq ?_
  refine Wp.seq ?_
  refine Wp.reg ?_
  refine Sq.v (r_move (look_t rfl)) rfl rfl rfl ?_
  refine Sq.v (r_nil Try.underlying38 (look_t rfl)) rfl rfl rfl ?_
  refine Sq.nil ?_
  refine To.next ?_
  refine Wp.condN (look_t rfl) (fun hx => ?_) ?_
  · subst hx; replace h := clone_nil h; subst h
    have h : some ([] : List T_session_Top) = some [] := rfl
    refine Wp.seq ?_
    refine Wp.reg ?_
    refine Sq.v (r_asg (look_nil (α := T_session_Top))) rfl rfl rfl ?_
    refine Sq.nil ?_
    refine To.next ?_
    refine Wp.ret ?_
    refine To.ret ?_
    replace h := some_in h
    clear h
    exact To.end1 rfl (rv_t rfl)
  · skip
    refine Wp.skip ?_
    refine To.next ?_
    refine Wp.seq ?_
    refine Wp.reg ?_
    refine Sq.bslO (α := T_session_Top) (r := ([] : List T_session_Top)) Try.underlying38 ty67 zr67 rfl rfl (.nil) rfl fun key1 => ?_
    refine Sq.v (r_move (look_t rfl)) rfl rfl rfl ?_
    obtain ⟨y1, hy1, h⟩ := bind_some h
    refine Sq.app (i := 0) Try.underlying38 ty67 zr67 (bytes := 24) (by kernel_rfl) (look_t rfl) rfl (look_t rfl) hy1 rfl fun key2 cap1 => ?_
    refine Sq.v (r_asg (look_t rfl)) rfl rfl rfl ?_
    refine Sq.nil ?_
    refine To.next ?_
    refine Wp.ret ?_
    refine To.freezeL (α := T_session_Top) 0 [2, 7] ⟨rfl, rfl, trivial⟩ rfl ?_
    replace h := some_in h
    subst h
    exact To.end1 rfl (rv_t rfl)
set_option maxHeartbeats 2000000 in
theorem C_ref20_of {x0 : T_ref20_State} {x1 : Int}  {r : T_ref20_Session × Bool} (h : L_ref20_of x0 x1 = some r) : Meets Try.prog 61 [VP.of (x0), VP.of (x1)] (VP.tup [VP.of (r.1), VP.of (r.2)]) := by
  unfold L_ref20_of at h
  refine Meets.of Try.func61 rfl Try.ntmps61 rfl fun W A => ?_
  refine Wp.seq ?_
  refine Wp.reg ?_
  refine Sq.box (z := (x0 : T_ref20_State)) (look_t rfl) rfl fun p1 => ?_
  refine Sq.alloc zr145 rfl fun p2 => ?_
  refine Sq.v (r_asg (look_bool false)) rfl rfl rfl ?_
  refine Sq.nil ?_
  refine To.next ?_
  refine Wp.seq ?_
  refine Wp.seq ?_
  refine Wp.reg ?_
  refine Sq.v (r_fa fd44_0 (look_t rfl)) rfl rfl rfl ?_
  refine Sq.v (r_load (i := 1) ((Lens.id T_ref20_State).comp le_T_ref20_State_Sessions) (r := x0.f_Sessions) ty41 (look_t rfl) rfl rfl rfl) rfl rfl rfl ?_
  refine Sq.v (r_len Try.underlying41 (look_t rfl)) rfl rfl rfl ?_
  refine Sq.v (r_move (look_int 0)) rfl rfl rfl ?_
  refine Sq.nil ?_
  refine To.next ?_
  refine Wp.block ?_
  obtain ⟨e1, hl, h⟩ := bind_some h
  refine Wp.loopG (σ := Int) (ε := (Int × Bool) ⊕ (Bool × Int × Bool × Bool × T_ref20_Session)) (γ := Unit) (δ := Unit) hl (fun s1 g1 => [(0, VP.of (x0)), (1, VP.of (x1)), (2, VP.eq (.pointer (some ⟨p1, 0, none⟩))), (4, VP.eq (.pointer (some ⟨p2, 0, none⟩))), (5, VP.of (false)), (9, VP.of (x0.f_Sessions)), (10, VP.of (x0.f_Sessions.length : Int)), (11, VP.of (s1))]) (fun s1 g1 => [⟨some p2, .var ((default : T_ref20_Session) : T_ref20_Session)⟩, ⟨some p1, .var (x0 : T_ref20_State)⟩]) (fun q1 => Sum.elim (fun q1 => Exit.exit 0) (fun q1 => Exit.ret) q1) (fun q1 g1 => Sum.elim (fun q1 => [(0, VP.of (x0)), (1, VP.of (x1)), (2, VP.eq (.pointer (some ⟨p1, 0, none⟩))), (4, VP.eq (.pointer (some ⟨p2, 0, none⟩))), (5, VP.of (false)), (9, VP.of (x0.f_Sessions)), (10, VP.of (x0.f_Sessions.length : Int)), (11, VP.of (q1.1)), (12, VP.of (q1.2))]) (fun q1 => [(0, VP.of (x0)), (1, VP.of (x1)), (2, VP.eq (.pointer (some ⟨p1, 0, none⟩))), (4, VP.eq (.pointer (some ⟨p2, 0, none⟩))), (5, VP.of (q1.1)), (9, VP.of (x0.f_Sessions)), (10, VP.of (x0.f_Sessions.length : Int)), (11, VP.of (q1.2.1)), (12, VP.of (q1.2.2.1)), (18, VP.of (q1.2.2.2.1))]) q1) (fun q1 g1 => Sum.elim (fun q1 => [⟨some p2, .var ((default : T_ref20_Session) : T_ref20_Session)⟩, ⟨some p1, .var (x0 : T_ref20_State)⟩]) (fun q1 => [⟨some p2, .var (q1.2.2.2.2 : T_ref20_Session)⟩, ⟨some p1, .var (x0 : T_ref20_State)⟩]) q1) () rfl (.same rfl (.same rfl (.same rfl (.same rfl (.same rfl (.same rfl (.same rfl (.same rfl .nil)))))))) (fun s1 r h g1 => ?_) (fun g1 => ?_)
  · clear hl
    refine Wp.seq ?_
    refine Wp.reg ?_
    refine Sq.v (r_lss (look_t rfl) (look_t rfl)) rfl rfl rfl ?_
    refine Sq.nil ?_
    refine To.next ?_
    refine Wp.seq ?_
    refine Wp.cond (look_t rfl) (fun hc => ?_) (fun hc => ?_)
    · replace h := cond_t hc h
      refine Wp.skip ?_
      refine To.next ?_
      refine Wp.seq ?_
      refine Wp.block ?_
      refine Wp.seq ?_
      refine Wp.reg ?_
      obtain ⟨k1, hk1, h⟩ := bind_some h
      refine Sq.v (r_ias (k := k1) Try.underlying41 ty145 (look_t rfl) (look_t rfl) (idx_some hk1)) rfl rfl rfl ?_
      refine Sq.v (r_loadp ty145 (look_t rfl)) rfl rfl rfl ?_
      refine Sq.alloc zr145 rfl fun p3 => ?_
      refine Sq.store (i := 0) (Lens.id T_ref20_Session) (v := (lget x0.f_Sessions k1 : T_ref20_Session)) (b' := (lget x0.f_Sessions k1 : T_ref20_Session)) ty145 (look_t rfl) (look_t rfl) rfl rfl rfl ?_
      refine Sq.nil ?_
      refine To.next ?_
      refine Wp.seq ?_
      refine Wp.reg ?_
      refine Sq.v (r_fa fd145_0 (look_t rfl)) rfl rfl rfl ?_
      refine Sq.v (r_load (i := 0) ((Lens.id T_ref20_Session).comp le_T_ref20_Session_Controller) (r := (lget x0.f_Sessions k1).f_Controller) ty3 (look_t rfl) rfl rfl rfl) rfl rfl rfl ?_
      refine Sq.v (r_move (look_t rfl)) rfl rfl rfl ?_
      refine Sq.v (r_eql (look_t rfl) (look_t rfl)) rfl rfl rfl ?_
      refine Sq.nil ?_
      refine To.next ?_
      refine Wp.cond (look_t rfl) (fun hc => ?_) (fun hc => ?_)
      · replace h := cond_t hc h
        refine Wp.seq ?_
        refine Wp.reg ?_
        refine Sq.v (r_load (i := 0) (Lens.id T_ref20_Session) (r := (lget x0.f_Sessions k1)) ty145 (look_t rfl) rfl rfl rfl) rfl rfl rfl ?_
        refine Sq.store (i := 1) (Lens.id T_ref20_Session) (v := ((lget x0.f_Sessions k1) : T_ref20_Session)) (b' := ((lget x0.f_Sessions k1) : T_ref20_Session)) ty145 (look_t rfl) (look_t rfl) rfl rfl rfl ?_
        refine Sq.v (r_asg (look_bool true)) rfl rfl rfl ?_
        refine Sq.nil ?_
        refine To.next ?_
        refine Wp.ret ?_
        refine To.bret ?_
        refine To.ret ?_
        replace h := some_in h
        subst h
        exact To.leaveG () 1 rfl (by simp) rfl (.same rfl (.same rfl (.same rfl (.same rfl (.same rfl (.same rfl (.same rfl (.same rfl (.same rfl (.same rfl .nil))))))))))
      · replace h := cond_f hc h
        refine Wp.skip ?_
        refine To.bnorm ?_
        refine To.next ?_
        refine Wp.reg ?_
        refine Sq.v (r_add (look_t rfl) (look_int 1)) rfl rfl rfl ?_
        refine Sq.v (r_move (look_t rfl)) rfl rfl rfl ?_
        refine Sq.nil ?_
        replace h := some_in h
        subst h
        exact To.roundG () 1 rfl (.same rfl (.same rfl (.same rfl (.same rfl (.same rfl (.same rfl (.same rfl (.same rfl .nil))))))))
    · replace h := cond_f hc h
      refine Wp.exit ?_
      refine To.exit ?_
      replace h := some_in h
      subst h
      exact To.leaveG () 0 rfl (by simp) rfl (.same rfl (.same rfl (.same rfl (.same rfl (.same rfl (.same rfl (.same rfl (.same rfl (.same rfl .nil)))))))))
  · clear hl
    rcases e1 with e1 | e1
    · simp only [Sum.elim_inl] at h
      refine To.bexit ?_
      refine To.next ?_
      refine Wp.seq ?_
      refine Wp.reg ?_
      refine Sq.v (r_build (b := (default : T_ref20_Session)) rfl bu145 zr145 (.nil)) rfl rfl rfl ?_
      refine Sq.store (i := 0) (Lens.id T_ref20_Session) (v := ((default : T_ref20_Session) : T_ref20_Session)) (b' := ((default : T_ref20_Session) : T_ref20_Session)) ty145 (look_t rfl) (look_t rfl) rfl rfl rfl ?_
      refine Sq.v (r_asg (look_bool false)) rfl rfl rfl ?_
      refine Sq.nil ?_
      refine To.next ?_
      refine Wp.ret ?_
      replace h := some_in h
      subst h
      exact To.end2 rfl (rv_c (i := 0) ty145 rfl rfl) (rv_t rfl)
    · simp only [Sum.elim_inr] at h
      refine To.bret ?_
      refine To.ret ?_
      replace h := some_in h
      subst h
      exact To.end2 rfl (rv_c (i := 0) ty145 rfl rfl) (rv_t rfl)
set_option maxHeartbeats 2000000 in
theorem C_ref20_without {x0 : T_ref20_State} {x1 : Int}  {r : T_ref20_State} (h : L_ref20_without x0 x1 = some r) : Meets Try.prog 62 [VP.of (x0), VP.of (x1)] (VP.of (r)) := by
  unfold L_ref20_without at h
  refine Meets.of Try.func62 rfl Try.ntmps62 rfl fun W A => ?_
  refine Wp.seq ?_
  refine Wp.reg ?_
  refine Sq.box (z := (x0 : T_ref20_State)) (look_t rfl) rfl fun p1 => ?_
  refine Sq.alloc zr44 rfl fun p2 => ?_
  refine Sq.nil ?_
  refine To.next ?_
  refine Wp.seq ?_
  refine Wp.reg ?_
  refine Sq.bslO (α := T_ref20_Top) (r := ([] : List T_ref20_Top)) Try.underlying42 ty159 zr159 rfl rfl (.nil) rfl fun key1 => ?_
  refine Sq.v (r_fa fd44_1 (look_t rfl)) rfl rfl rfl ?_
  refine Sq.v (r_load (i := 2) ((Lens.id T_ref20_State).comp le_T_ref20_State_Tops) (r := x0.f_Tops) ty42 (look_t rfl) rfl rfl rfl) rfl rfl rfl ?_
  obtain ⟨y1, hy1, h⟩ := bind_some h
  refine Sq.app (i := 0) Try.underlying42 ty159 zr159 (bytes := 24) (by kernel_rfl) (look_t rfl) rfl (look_t rfl) hy1 rfl fun key2 cap1 => ?_
  refine Sq.freeze (α := T_ref20_Top) 0 11 rfl rfl ?_
  refine Sq.v (r_buildX (b := ({ (default : T_ref20_State) with f_Tops := y1 } : T_ref20_State)) [0] zh44_0 rfl bu44 zr44 (.cons le_T_ref20_State_Tops rfl (look_t rfl) rfl (by rfl) (.nil))) rfl rfl rfl ?_
  refine Sq.own (α := T_ref20_Session) 145 ?_
  refine Sq.allocX (z := (default : T_ref20_State)) [0] zh44_0 zr44 rfl fun p3 => ?_
  refine Sq.own (α := T_ref20_Session) 145 ?_
  refine Sq.storeW (i := 1) ty44 (look_t rfl) (look_t rfl) rfl ?_
  refine Sq.nil ?_
  refine To.next ?_
  refine Wp.seq ?_
  refine Wp.seq ?_
  refine Wp.reg ?_
  refine Sq.v (r_fa fd44_0 (look_t rfl)) rfl rfl rfl ?_
  refine Sq.v (r_load (i := 5) ((Lens.id T_ref20_State).comp le_T_ref20_State_Sessions) (r := x0.f_Sessions) ty41 (look_t rfl) rfl rfl rfl) rfl rfl rfl ?_
  refine Sq.v (r_len Try.underlying41 (look_t rfl)) rfl rfl rfl ?_
  refine Sq.v (r_move (look_int 0)) rfl rfl rfl ?_
  refine Sq.nil ?_
  refine To.next ?_
  refine Wp.block ?_
  obtain ⟨e1, hl, h⟩ := bind_some h
  refine Wp.loopG (σ := Int × T_ref20_State × (List T_ref20_Session)) (ε := (Int × Bool × T_ref20_State × (List T_ref20_Session))) (γ := (Option Nat × Nat)) (δ := (Option Nat × Nat)) hl (fun s1 g1 => [(0, VP.of (x0)), (1, VP.of (x1)), (2, VP.eq (.pointer (some ⟨p1, 0, none⟩))), (4, VP.eq (.pointer (some ⟨p2, 0, none⟩))), (5, VP.eq (.pointer (some ⟨p3, 0, none⟩))), (14, VP.of (x0.f_Sessions)), (15, VP.of (x0.f_Sessions.length : Int)), (16, VP.of (s1.1))]) (fun s1 g1 => [⟨none, .row 145 (([] : List T_ref20_Session) : List T_ref20_Session) 0⟩, ⟨some p3, .varX (s1.2.1 : T_ref20_State) [(0, slv g1.1 s1.2.2.length g1.2)]⟩, ⟨g1.1, .row 145 (s1.2.2 : List T_ref20_Session) g1.2⟩, ⟨none, .dead⟩, ⟨some p2, .var ((default : T_ref20_State) : T_ref20_State)⟩, ⟨some p1, .var (x0 : T_ref20_State)⟩]) (fun q1 => Exit.exit 0) (fun q1 g1 => [(0, VP.of (x0)), (1, VP.of (x1)), (2, VP.eq (.pointer (some ⟨p1, 0, none⟩))), (4, VP.eq (.pointer (some ⟨p2, 0, none⟩))), (5, VP.eq (.pointer (some ⟨p3, 0, none⟩))), (14, VP.of (x0.f_Sessions)), (15, VP.of (x0.f_Sessions.length : Int)), (16, VP.of (q1.1)), (17, VP.of (q1.2.1))]) (fun q1 g1 => [⟨none, .row 145 (([] : List T_ref20_Session) : List T_ref20_Session) 0⟩, ⟨some p3, .varX (q1.2.2.1 : T_ref20_State) [(0, slv g1.1 q1.2.2.2.length g1.2)]⟩, ⟨g1.1, .row 145 (q1.2.2.2 : List T_ref20_Session) g1.2⟩, ⟨none, .dead⟩, ⟨some p2, .var ((default : T_ref20_State) : T_ref20_State)⟩, ⟨some p1, .var (x0 : T_ref20_State)⟩]) (none, 0) rfl (.same rfl (.same rfl (.same rfl (.same rfl (.same rfl (.same rfl (.same rfl (.same rfl .nil)))))))) (fun s1 r h g1 => ?_) (fun g1 => ?_)
  · clear hl
    refine Wp.seq ?_
    refine Wp.reg ?_
    refine Sq.v (r_lss (look_t rfl) (look_t rfl)) rfl rfl rfl ?_
    refine Sq.nil ?_
    refine To.next ?_
    refine Wp.seq ?_
    refine Wp.cond (look_t rfl) (fun hc => ?_) (fun hc => ?_)
    · replace h := cond_t hc h
      refine Wp.skip ?_
      refine To.next ?_
      refine Wp.seq ?_
      refine Wp.block ?_
      refine Wp.seq ?_
      refine Wp.reg ?_
      obtain ⟨k1, hk1, h⟩ := bind_some h
      refine Sq.v (r_ias (k := k1) Try.underlying41 ty145 (look_t rfl) (look_t rfl) (idx_some hk1)) rfl rfl rfl ?_
      refine Sq.v (r_loadp ty145 (look_t rfl)) rfl rfl rfl ?_
      refine Sq.alloc zr145 rfl fun p4 => ?_
      refine Sq.store (i := 0) (Lens.id T_ref20_Session) (v := (lget x0.f_Sessions k1 : T_ref20_Session)) (b' := (lget x0.f_Sessions k1 : T_ref20_Session)) ty145 (look_t rfl) (look_t rfl) rfl rfl rfl ?_
      refine Sq.nil ?_
      refine To.next ?_
      refine Wp.seq ?_
      refine Wp.reg ?_
      refine Sq.v (r_fa fd145_0 (look_t rfl)) rfl rfl rfl ?_
      refine Sq.v (r_load (i := 0) ((Lens.id T_ref20_Session).comp le_T_ref20_Session_Controller) (r := (lget x0.f_Sessions k1).f_Controller) ty3 (look_t rfl) rfl rfl rfl) rfl rfl rfl ?_
      refine Sq.v (r_move (look_t rfl)) rfl rfl rfl ?_
      refine Sq.v (r_neq (look_t rfl) (look_t rfl)) rfl rfl rfl ?_
      refine Sq.nil ?_
      refine To.next ?_
      obtain ⟨m1, hm1, h⟩ := bind_some h
      refine Wp.condM (γ := (Option Nat × Nat)) (fun g2 => [(0, VP.of (x0)), (1, VP.of (x1)), (2, VP.eq (.pointer (some ⟨p1, 0, none⟩))), (4, VP.eq (.pointer (some ⟨p2, 0, none⟩))), (5, VP.eq (.pointer (some ⟨p3, 0, none⟩))), (7, VP.eq (.pointer (some ⟨p4, 0, none⟩))), (14, VP.of (x0.f_Sessions)), (15, VP.of (x0.f_Sessions.length : Int)), (16, VP.of (s1.1)), (17, VP.of (decide (s1.1 < (x0.f_Sessions.length : Int)))), (23, VP.of (((lget x0.f_Sessions k1).f_Controller) != x1))]) (fun g2 => [⟨some p4, .var (lget x0.f_Sessions k1 : T_ref20_Session)⟩, ⟨none, .row 145 (([] : List T_ref20_Session) : List T_ref20_Session) 0⟩, ⟨some p3, .varX (m1.1 : T_ref20_State) [(0, slv g2.1 m1.2.length g2.2)]⟩, ⟨g2.1, .row 145 (m1.2 : List T_ref20_Session) g2.2⟩, ⟨none, .dead⟩, ⟨some p2, .var ((default : T_ref20_State) : T_ref20_State)⟩, ⟨some p1, .var (x0 : T_ref20_State)⟩]) (look_t rfl) (fun g2 => ?_) (fun hm hc => ?_) (fun hm hc => ?_)
      · clear hm1
        refine To.bnorm ?_
        refine To.next ?_
        refine Wp.reg ?_
        refine Sq.v (r_add (look_t rfl) (look_int 1)) rfl rfl rfl ?_
        refine Sq.v (r_move (look_t rfl)) rfl rfl rfl ?_
        refine Sq.nil ?_
        replace h := some_in h
        subst h
        exact To.roundG (g2.1, g2.2) 1 rfl (.same rfl (.same rfl (.same rfl (.same rfl (.same rfl (.same rfl (.same rfl (.same rfl .nil))))))))
      · have h := cond_t hc hm1
        refine Wp.reg ?_
        refine Sq.v (r_fa fd44_0 (look_t rfl)) rfl rfl rfl ?_
        refine Sq.v (r_loadH (i := 2) (q := 0) (β := T_ref20_State) (γ := T_ref20_Session) ty41 (look_t rfl) rfl rfl) rfl rfl rfl ?_
        refine Sq.v (r_load (i := 0) (Lens.id T_ref20_Session) (r := (lget x0.f_Sessions k1)) ty145 (look_t rfl) rfl rfl rfl) rfl rfl rfl ?_
        refine Sq.v (r_bsl (r := [(lget x0.f_Sessions k1)]) Try.underlying41 ty145 zr145 rfl rfl (.cons (by simp) (look_t rfl) (.nil))) rfl rfl rfl ?_
        obtain ⟨y2, hy2, h⟩ := bind_some h
        refine Sq.app (i := 3) Try.underlying41 ty145 zr145 (bytes := 32) (by kernel_rfl) (look_t rfl) rfl (look_t rfl) hy2 rfl fun key3 cap2 => ?_
        refine Sq.v (r_fa fd44_0 (look_t rfl)) rfl rfl rfl ?_
        refine Sq.storeH (i := 2) (γ := T_ref20_Session) (b' := (({ s1.2.1 with f_Sessions := [] } : T_ref20_State) : T_ref20_State)) (os' := [(0, slv key3 y2.length cap2)]) ((Lens.id T_ref20_State).comp le_T_ref20_State_Sessions) ty41 (look_t rfl) (look_t rfl) slv_one rfl rfl rfl rfl ?_
        refine Sq.nil ?_
        replace h := some_in h
        subst h
        exact To.meet 0 rfl (.same rfl (.same rfl (.same rfl (.same rfl (.same rfl (.same rfl (.same rfl (.same rfl (.same rfl (.same rfl (.same rfl .nil))))))))))) (hm (key3, cap2))
      · have h := cond_f hc hm1
        refine Wp.skip ?_
        replace h := some_in h
        subst h
        exact To.meet 0 rfl (.same rfl (.same rfl (.same rfl (.same rfl (.same rfl (.same rfl (.same rfl (.same rfl (.same rfl (.same rfl (.same rfl .nil))))))))))) (hm (g1.1, g1.2))
    · replace h := cond_f hc h
      refine Wp.exit ?_
      refine To.exit ?_
      replace h := some_in h
      subst h
      exact To.leaveG (g1.1, g1.2) 0 rfl (by simp) rfl (.same rfl (.same rfl (.same rfl (.same rfl (.same rfl (.same rfl (.same rfl (.same rfl (.same rfl .nil)))))))))
  · clear hl
    refine To.bexit ?_
    refine To.next ?_
    refine Wp.seq ?_
    refine Wp.reg ?_
    refine Sq.thaw (β := T_ref20_State) (γ := T_ref20_Session) (b' := (({ e1.2.2.1 with f_Sessions := e1.2.2.2 } : T_ref20_State) : T_ref20_State)) ((Lens.id T_ref20_State).comp le_T_ref20_State_Sessions) 1 2 0 rfl rfl rfl rfl rfl rfl ?_
    refine Sq.fromX 1 rfl ?_
    refine Sq.v (r_load (i := 1) (Lens.id T_ref20_State) (r := ({ e1.2.2.1 with f_Sessions := e1.2.2.2 } : T_ref20_State)) ty44 (look_t rfl) rfl rfl rfl) rfl rfl rfl ?_
    refine Sq.store (i := 4) (Lens.id T_ref20_State) (v := (({ e1.2.2.1 with f_Sessions := e1.2.2.2 } : T_ref20_State) : T_ref20_State)) (b' := (({ e1.2.2.1 with f_Sessions := e1.2.2.2 } : T_ref20_State) : T_ref20_State)) ty44 (look_t rfl) (look_t rfl) rfl rfl rfl ?_
    refine Sq.nil ?_
    refine To.next ?_
    refine Wp.ret ?_
    replace h := some_in h
    subst h
    exact To.end1 rfl (rv_c (i := 4) ty44 rfl rfl)
set_option maxHeartbeats 2000000 in
theorem C_session_Arbitrate_fn1 {x0 : T_session_Session} {x1 : Int} {x2 : Int} {x3 : T_api_Value}  {r : Bool} (h : L_session_Arbitrate_fn1 x0 x1 x2 x3 = some r) : Meets Try.prog 63 [VP.of (x0), VP.ptr x1, VP.ptr x2, VP.ptr x3] (VP.of (r)) := by
  unfold L_session_Arbitrate_fn1 at h
  refine Meets.of Try.func63 rfl Try.ntmps63 rfl fun W A => ?_
  refine Wp.seq ?_
  refine Wp.reg ?_
  refine Sq.box (z := (x0 : T_session_Session)) (look_t rfl) rfl fun p1 => ?_
  refine Sq.v (r_asg (look_bool false)) rfl rfl rfl ?_
  refine Sq.nil ?_
  refine To.next ?_
  refine Wp.seq ?_
  refine Wp.reg ?_
  refine Sq.v (r_fa fd138_0 (look_t rfl)) rfl rfl rfl ?_
  refine Sq.v (r_load (i := 0) ((Lens.id T_session_Session).comp le_T_session_Session_Controller) (r := x0.f_Controller) ty3 (look_t rfl) rfl rfl rfl) rfl rfl rfl ?_
  refine Sq.v (r_loadp ty3 (look_t rfl)) rfl rfl rfl ?_
  refine Sq.v (r_neq (look_t rfl) (look_t rfl)) rfl rfl rfl ?_
  refine Sq.v (r_move (look_t rfl)) rfl rfl rfl ?_
  refine Sq.g (fun hb => r_fa fd138_1 (look_t rfl)) rfl rfl rfl rfl rfl ?_
  refine Sq.g (fun hb => r_load (i := 0) ((Lens.id T_session_Session).comp le_T_session_Session_Role) (r := x0.f_Role) ty3 (look_tc rfl hb) rfl rfl rfl) rfl rfl rfl rfl rfl ?_
  refine Sq.g (fun hb => r_loadp ty3 (look_t rfl)) rfl rfl rfl rfl rfl ?_
  refine Sq.g (fun hb => r_eql (look_tc rfl hb) (look_tc rfl hb)) rfl rfl rfl rfl rfl ?_
  refine Sq.v (r_and (look_t rfl) (look_t rfl) (fun h => h)) rfl rfl rfl ?_
  refine Sq.v (r_move (look_t rfl)) rfl rfl rfl ?_
  refine Sq.g (fun hb => r_fa fd138_2 (look_t rfl)) rfl rfl rfl rfl rfl ?_
  refine Sq.g (fun hb => r_load (i := 0) ((Lens.id T_session_Session).comp le_T_session_Session_Election) (r := x0.f_Election) ty47 (look_tc rfl hb) rfl rfl rfl) rfl rfl rfl rfl rfl ?_
  refine Sq.g (fun hb => r_loadp ty47 (look_t rfl)) rfl rfl rfl rfl rfl ?_
  refine Sq.g (fun hb => r_eqA eqv47 rfl eqg47 rfl (look_tc rfl hb) (look_tc rfl hb)) rfl rfl rfl rfl rfl ?_
  obtain ⟨z1, hz1, h⟩ := bind_some h
  refine Sq.v ((r_and (look_t rfl) (look_t rfl) (fun h => h)).as (some_in hz1)) rfl rfl rfl ?_
  refine Sq.v (r_asg (look_t rfl)) rfl rfl rfl ?_
  refine Sq.nil ?_
  refine To.next ?_
  refine Wp.ret ?_
  replace h := some_in h
  subst h
  exact To.end1 rfl (rv_t rfl)
set_option maxHeartbeats 2000000 in
theorem C_check_RoleOf_fn1 {x0 : T_api_Role} {x1 : Int}  {r : Bool} (h : L_check_RoleOf_fn1 x0 x1 = some r) : Meets Try.prog 99 [VP.of (x0), VP.ptr x1] (VP.of (r)) := by
  unfold L_check_RoleOf_fn1 at h
  refine Meets.of Try.func99 rfl Try.ntmps99 rfl fun W A => ?_
  refine Wp.seq ?_
  refine Wp.reg ?_
  refine Sq.box (z := (x0 : T_api_Role)) (look_t rfl) rfl fun p1 => ?_
  refine Sq.v (r_asg (look_bool false)) rfl rfl rfl ?_
  refine Sq.nil ?_
  refine To.next ?_
  refine Wp.seq ?_
  refine Wp.reg ?_
  refine Sq.v (r_fa fd207_0 (look_t rfl)) rfl rfl rfl ?_
  refine Sq.v (r_load (i := 0) ((Lens.id T_api_Role).comp le_T_api_Role_ID) (r := x0.f_ID) ty3 (look_t rfl) rfl rfl rfl) rfl rfl rfl ?_
  refine Sq.v (r_loadp ty3 (look_t rfl)) rfl rfl rfl ?_
  refine Sq.v (r_eql (look_t rfl) (look_t rfl)) rfl rfl rfl ?_
  refine Sq.v (r_asg (look_t rfl)) rfl rfl rfl ?_
  refine Sq.nil ?_
  refine To.next ?_
  refine Wp.ret ?_
  replace h := some_in h
  subst h
  exact To.end1 rfl (rv_t rfl)
end Go.Proofs.Ytodajdohokmjnaa
