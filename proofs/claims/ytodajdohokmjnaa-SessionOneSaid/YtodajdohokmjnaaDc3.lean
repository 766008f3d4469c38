/-
  Printed by the decompiler (dec.py) out of the seat's translation. Each function meets its functional program. Conditions: none.
-/
import Derived.Test.YtodajdohokmjnaaDc0
namespace Go.Proofs.Ytodajdohokmjnaa
open Go Gv
set_option linter.unusedVariables false
set_option linter.unusedSimpArgs false
set_option maxRecDepth 100000
set_option maxHeartbeats 2000000 in
theorem C_ref20_of {x0 : T_ref20_State} {x1 : Int}  {r : T_ref20_Session × Bool} (h : L_ref20_of x0 x1 = some r) : Meets Try.prog 61 [VP.of (x0), VP.of (x1)] (VP.tup [VP.of (r.1), VP.of (r.2)]) := by
  unfold L_ref20_of at h
  refine Meets.of Try.func61 rfl Try.ntmps61 rfl fun W A => ?_
  refine Wp.seq ?_
  refine Wp.reg ?_
  refine Sq.box (z := (x0 : T_ref20_State)) (look_t rfl) rfl fun p1 => ?_
  refine Sq.alloc zr145 rfl fun p2 => ?_
  refine Sq.v (r_asg (look_bool false)) rfl rfl rfl ?_
  refine Sq.nil ?_
  refine To.next ?_
  refine Wp.seq ?_
  refine Wp.seq ?_
  refine Wp.reg ?_
  refine Sq.v (r_fa fd44_0 (look_t rfl)) rfl rfl rfl ?_
  refine Sq.v (r_load (i := 1) ((Lens.id T_ref20_State).comp le_T_ref20_State_Sessions) (r := x0.f_Sessions) ty41 (look_t rfl) rfl rfl rfl) rfl rfl rfl ?_
  refine Sq.v (r_len Try.underlying41 (look_t rfl)) rfl rfl rfl ?_
  refine Sq.v (r_move (look_int 0)) rfl rfl rfl ?_
  refine Sq.nil ?_
  refine To.next ?_
  refine Wp.block ?_
  obtain ⟨e1, hl, h⟩ := bind_some h
  refine Wp.loopG (σ := Int) (ε := (Int × Bool) ⊕ (Bool × Int × Bool × Bool × T_ref20_Session)) (γ := Unit) (δ := Unit) hl (fun s1 g1 => [(0, VP.of (x0)), (1, VP.of (x1)), (2, VP.eq (.pointer (some ⟨p1, 0, none⟩))), (4, VP.eq (.pointer (some ⟨p2, 0, none⟩))), (5, VP.of (false)), (9, VP.of (x0.f_Sessions)), (10, VP.of (x0.f_Sessions.length : Int)), (11, VP.of (s1))]) (fun s1 g1 => [⟨some p2, .var ((default : T_ref20_Session) : T_ref20_Session)⟩, ⟨some p1, .var (x0 : T_ref20_State)⟩]) (fun q1 => Sum.elim (fun q1 => Exit.exit 0) (fun q1 => Exit.ret) q1) (fun q1 g1 => Sum.elim (fun q1 => [(0, VP.of (x0)), (1, VP.of (x1)), (2, VP.eq (.pointer (some ⟨p1, 0, none⟩))), (4, VP.eq (.pointer (some ⟨p2, 0, none⟩))), (5, VP.of (false)), (9, VP.of (x0.f_Sessions)), (10, VP.of (x0.f_Sessions.length : Int)), (11, VP.of (q1.1)), (12, VP.of (q1.2))]) (fun q1 => [(0, VP.of (x0)), (1, VP.of (x1)), (2, VP.eq (.pointer (some ⟨p1, 0, none⟩))), (4, VP.eq (.pointer (some ⟨p2, 0, none⟩))), (5, VP.of (q1.1)), (9, VP.of (x0.f_Sessions)), (10, VP.of (x0.f_Sessions.length : Int)), (11, VP.of (q1.2.1)), (12, VP.of (q1.2.2.1)), (18, VP.of (q1.2.2.2.1))]) q1) (fun q1 g1 => Sum.elim (fun q1 => [⟨some p2, .var ((default : T_ref20_Session) : T_ref20_Session)⟩, ⟨some p1, .var (x0 : T_ref20_State)⟩]) (fun q1 => [⟨some p2, .var (q1.2.2.2.2 : T_ref20_Session)⟩, ⟨some p1, .var (x0 : T_ref20_State)⟩]) q1) () rfl (.same rfl (.same rfl (.same rfl (.same rfl (.same rfl (.same rfl (.same rfl (.same rfl .nil)))))))) (fun s1 r h g1 => ?_) (fun g1 => ?_)
  · clear hl
    refine Wp.seq ?_
    refine Wp.reg ?_
    refine Sq.v (r_lss (look_t rfl) (look_t rfl)) rfl rfl rfl ?_
    refine Sq.nil ?_
    refine To.next ?_
    refine Wp.seq ?_
    refine Wp.cond (look_t rfl) (fun hc => ?_) (fun hc => ?_)
    · replace h := cond_t hc h
      refine Wp.skip ?_
      refine To.next ?_
      refine Wp.seq ?_
      refine Wp.block ?_
      refine Wp.seq ?_
      refine Wp.reg ?_
      obtain ⟨k1, hk1, h⟩ := bind_some h
      refine Sq.v (r_ias (k := k1) Try.underlying41 ty145 (look_t rfl) (look_t rfl) (idx_some hk1)) rfl rfl rfl ?_
      refine Sq.v (r_loadp ty145 (look_t rfl)) rfl rfl rfl ?_
      refine Sq.alloc zr145 rfl fun p3 => ?_
      refine Sq.store (i := 0) (Lens.id T_ref20_Session) (v := (lget x0.f_Sessions k1 : T_ref20_Session)) (b' := (lget x0.f_Sessions k1 : T_ref20_Session)) ty145 (look_t rfl) (look_t rfl) rfl rfl rfl ?_
      refine Sq.nil ?_
      refine To.next ?_
      refine Wp.seq ?_
      refine Wp.reg ?_
      refine Sq.v (r_fa fd145_0 (look_t rfl)) rfl rfl rfl ?_
      refine Sq.v (r_load (i := 0) ((Lens.id T_ref20_Session).comp le_T_ref20_Session_Controller) (r := (lget x0.f_Sessions k1).f_Controller) ty3 (look_t rfl) rfl rfl rfl) rfl rfl rfl ?_
      refine Sq.v (r_move (look_t rfl)) rfl rfl rfl ?_
      refine Sq.v (r_eql (look_t rfl) (look_t rfl)) rfl rfl rfl ?_
      refine Sq.nil ?_
      refine To.next ?_
      refine Wp.cond (look_t rfl) (fun hc => ?_) (fun hc => ?_)
      · replace h := cond_t hc h
        refine Wp.seq ?_
        refine Wp.reg ?_
        refine Sq.v (r_load (i := 0) (Lens.id T_ref20_Session) (r := (lget x0.f_Sessions k1)) ty145 (look_t rfl) rfl rfl rfl) rfl rfl rfl ?_
        refine Sq.store (i := 1) (Lens.id T_ref20_Session) (v := ((lget x0.f_Sessions k1) : T_ref20_Session)) (b' := ((lget x0.f_Sessions k1) : T_ref20_Session)) ty145 (look_t rfl) (look_t rfl) rfl rfl rfl ?_
        refine Sq.v (r_asg (look_bool true)) rfl rfl rfl ?_
        refine Sq.nil ?_
        refine To.next ?_
        refine Wp.ret ?_
        refine To.bret ?_
        refine To.ret ?_
        replace h := some_in h
        subst h
        exact To.leaveG () 1 rfl (by simp) rfl (.same rfl (.same rfl (.same rfl (.same rfl (.same rfl (.same rfl (.same rfl (.same rfl (.same rfl (.same rfl .nil))))))))))
      · replace h := cond_f hc h
        refine Wp.skip ?_
        refine To.bnorm ?_
        refine To.next ?_
        refine Wp.reg ?_
        refine Sq.v (r_add (look_t rfl) (look_int 1)) rfl rfl rfl ?_
        refine Sq.v (r_move (look_t rfl)) rfl rfl rfl ?_
        refine Sq.nil ?_
        replace h := some_in h
        subst h
        exact To.roundG () 1 rfl (.same rfl (.same rfl (.same rfl (.same rfl (.same rfl (.same rfl (.same rfl (.same rfl .nil))))))))
    · replace h := cond_f hc h
      refine Wp.exit ?_
      refine To.exit ?_
      replace h := some_in h
      subst h
      exact To.leaveG () 0 rfl (by simp) rfl (.same rfl (.same rfl (.same rfl (.same rfl (.same rfl (.same rfl (.same rfl (.same rfl (.same rfl .nil)))))))))
  · clear hl
    rcases e1 with e1 | e1
    · simp only [Sum.elim_inl] at h
      refine To.bexit ?_
      refine To.next ?_
      refine Wp.seq ?_
      refine Wp.reg ?_
      refine Sq.v (r_build (b := (default : T_ref20_Session)) rfl bu145 zr145 (.nil)) rfl rfl rfl ?_
      refine Sq.store (i := 0) (Lens.id T_ref20_Session) (v := ((default : T_ref20_Session) : T_ref20_Session)) (b' := ((default : T_ref20_Session) : T_ref20_Session)) ty145 (look_t rfl) (look_t rfl) rfl rfl rfl ?_
      refine Sq.v (r_asg (look_bool false)) rfl rfl rfl ?_
      refine Sq.nil ?_
      refine To.next ?_
      refine Wp.ret ?_
      replace h := some_in h
      subst h
      exact To.end2 rfl (rv_c (i := 0) ty145 rfl rfl) (rv_t rfl)
    · simp only [Sum.elim_inr] at h
      refine To.bret ?_
      refine To.ret ?_
      replace h := some_in h
      subst h
      exact To.end2 rfl (rv_c (i := 0) ty145 rfl rfl) (rv_t rfl)
set_option maxHeartbeats 2000000 in
theorem C_ref20_top {x0 : T_ref20_State} {x1 : Int}  {r : T_api_Value} (h : L_ref20_top x0 x1 = some r) : Meets Try.prog 74 [VP.of (x0), VP.of (x1)] (VP.of (r)) := by
  unfold L_ref20_top at h
  refine Meets.of Try.func74 rfl Try.ntmps74 rfl fun W A => ?_
  refine Wp.seq ?_
  refine Wp.reg ?_
  refine Sq.box (z := (x0 : T_ref20_State)) (look_t rfl) rfl fun p1 => ?_
  refine Sq.alloc zr47 rfl fun p2 => ?_
  refine Sq.nil ?_
  refine To.next ?_
  refine Wp.seq ?_
  refine Wp.seq ?_
  refine Wp.reg ?_
  refine Sq.v (r_fa fd44_1 (look_t rfl)) rfl rfl rfl ?_
  refine Sq.v (r_load (i := 1) ((Lens.id T_ref20_State).comp le_T_ref20_State_Tops) (r := x0.f_Tops) ty42 (look_t rfl) rfl rfl rfl) rfl rfl rfl ?_
  refine Sq.v (r_len Try.underlying42 (look_t rfl)) rfl rfl rfl ?_
  refine Sq.v (r_move (look_int 0)) rfl rfl rfl ?_
  refine Sq.nil ?_
  refine To.next ?_
  refine Wp.block ?_
  obtain ⟨e1, hl, h⟩ := bind_some h
  refine Wp.loopG (σ := Int) (ε := (Int × Bool) ⊕ (Int × Bool × Bool × T_api_Value)) (γ := Unit) (δ := Unit) hl (fun s1 g1 => [(0, VP.of (x0)), (1, VP.of (x1)), (2, VP.eq (.pointer (some ⟨p1, 0, none⟩))), (4, VP.eq (.pointer (some ⟨p2, 0, none⟩))), (8, VP.of (x0.f_Tops)), (9, VP.of (x0.f_Tops.length : Int)), (10, VP.of (s1))]) (fun s1 g1 => [⟨some p2, .var ((default : T_api_Value) : T_api_Value)⟩, ⟨some p1, .var (x0 : T_ref20_State)⟩]) (fun q1 => Sum.elim (fun q1 => Exit.exit 0) (fun q1 => Exit.ret) q1) (fun q1 g1 => Sum.elim (fun q1 => [(0, VP.of (x0)), (1, VP.of (x1)), (2, VP.eq (.pointer (some ⟨p1, 0, none⟩))), (4, VP.eq (.pointer (some ⟨p2, 0, none⟩))), (8, VP.of (x0.f_Tops)), (9, VP.of (x0.f_Tops.length : Int)), (10, VP.of (q1.1)), (11, VP.of (q1.2))]) (fun q1 => [(0, VP.of (x0)), (1, VP.of (x1)), (2, VP.eq (.pointer (some ⟨p1, 0, none⟩))), (4, VP.eq (.pointer (some ⟨p2, 0, none⟩))), (8, VP.of (x0.f_Tops)), (9, VP.of (x0.f_Tops.length : Int)), (10, VP.of (q1.1)), (11, VP.of (q1.2.1)), (17, VP.of (q1.2.2.1))]) q1) (fun q1 g1 => Sum.elim (fun q1 => [⟨some p2, .var ((default : T_api_Value) : T_api_Value)⟩, ⟨some p1, .var (x0 : T_ref20_State)⟩]) (fun q1 => [⟨some p2, .var (q1.2.2.2 : T_api_Value)⟩, ⟨some p1, .var (x0 : T_ref20_State)⟩]) q1) () rfl (.same rfl (.same rfl (.same rfl (.same rfl (.same rfl (.same rfl (.same rfl .nil))))))) (fun s1 r h g1 => ?_) (fun g1 => ?_)
  · clear hl
    refine Wp.seq ?_
    refine Wp.reg ?_
    refine Sq.v (r_lss (look_t rfl) (look_t rfl)) rfl rfl rfl ?_
    refine Sq.nil ?_
    refine To.next ?_
    refine Wp.seq ?_
    refine Wp.cond (look_t rfl) (fun hc => ?_) (fun hc => ?_)
    · replace h := cond_t hc h
      refine Wp.skip ?_
      refine To.next ?_
      refine Wp.seq ?_
      refine Wp.block ?_
      refine Wp.seq ?_
      refine Wp.reg ?_
      obtain ⟨k1, hk1, h⟩ := bind_some h
      refine Sq.v (r_ias (k := k1) Try.underlying42 ty159 (look_t rfl) (look_t rfl) (idx_some hk1)) rfl rfl rfl ?_
      refine Sq.v (r_loadp ty159 (look_t rfl)) rfl rfl rfl ?_
      refine Sq.alloc zr159 rfl fun p3 => ?_
      refine Sq.store (i := 0) (Lens.id T_ref20_Top) (v := (lget x0.f_Tops k1 : T_ref20_Top)) (b' := (lget x0.f_Tops k1 : T_ref20_Top)) ty159 (look_t rfl) (look_t rfl) rfl rfl rfl ?_
      refine Sq.nil ?_
      refine To.next ?_
      refine Wp.seq ?_
      refine Wp.reg ?_
      refine Sq.v (r_fa fd159_0 (look_t rfl)) rfl rfl rfl ?_
      refine Sq.v (r_load (i := 0) ((Lens.id T_ref20_Top).comp le_T_ref20_Top_Role) (r := (lget x0.f_Tops k1).f_Role) ty3 (look_t rfl) rfl rfl rfl) rfl rfl rfl ?_
      refine Sq.v (r_move (look_t rfl)) rfl rfl rfl ?_
      refine Sq.v (r_eql (look_t rfl) (look_t rfl)) rfl rfl rfl ?_
      refine Sq.nil ?_
      refine To.next ?_
      refine Wp.cond (look_t rfl) (fun hc => ?_) (fun hc => ?_)
      · replace h := cond_t hc h
        refine Wp.seq ?_
        refine Wp.reg ?_
        refine Sq.v (r_fa fd159_1 (look_t rfl)) rfl rfl rfl ?_
        refine Sq.v (r_load (i := 0) ((Lens.id T_ref20_Top).comp le_T_ref20_Top_Election) (r := (lget x0.f_Tops k1).f_Election) ty47 (look_t rfl) rfl rfl rfl) rfl rfl rfl ?_
        refine Sq.store (i := 1) (Lens.id T_api_Value) (v := ((lget x0.f_Tops k1).f_Election : T_api_Value)) (b' := ((lget x0.f_Tops k1).f_Election : T_api_Value)) ty47 (look_t rfl) (look_t rfl) rfl rfl rfl ?_
        refine Sq.nil ?_
        refine To.next ?_
        refine Wp.ret ?_
        refine To.bret ?_
        refine To.ret ?_
        replace h := some_in h
        subst h
        exact To.leaveG () 1 rfl (by simp) rfl (.same rfl (.same rfl (.same rfl (.same rfl (.same rfl (.same rfl (.same rfl (.same rfl (.same rfl .nil)))))))))
      · replace h := cond_f hc h
        refine Wp.skip ?_
        refine To.bnorm ?_
        refine To.next ?_
        refine Wp.reg ?_
        refine Sq.v (r_add (look_t rfl) (look_int 1)) rfl rfl rfl ?_
        refine Sq.v (r_move (look_t rfl)) rfl rfl rfl ?_
        refine Sq.nil ?_
        replace h := some_in h
        subst h
        exact To.roundG () 1 rfl (.same rfl (.same rfl (.same rfl (.same rfl (.same rfl (.same rfl (.same rfl .nil)))))))
    · replace h := cond_f hc h
      refine Wp.exit ?_
      refine To.exit ?_
      replace h := some_in h
      subst h
      exact To.leaveG () 0 rfl (by simp) rfl (.same rfl (.same rfl (.same rfl (.same rfl (.same rfl (.same rfl (.same rfl (.same rfl .nil))))))))
  · clear hl
    rcases e1 with e1 | e1
    · simp only [Sum.elim_inl] at h
      refine To.bexit ?_
      refine To.next ?_
      refine Wp.seq ?_
      refine Wp.reg ?_
      refine Sq.v (r_build (b := (default : T_api_Value)) rfl bu47 zr47 (.nil)) rfl rfl rfl ?_
      refine Sq.store (i := 0) (Lens.id T_api_Value) (v := ((default : T_api_Value) : T_api_Value)) (b' := ((default : T_api_Value) : T_api_Value)) ty47 (look_t rfl) (look_t rfl) rfl rfl rfl ?_
      refine Sq.nil ?_
      refine To.next ?_
      refine Wp.ret ?_
      replace h := some_in h
      subst h
      exact To.end1 rfl (rv_c (i := 0) ty47 rfl rfl)
    · simp only [Sum.elim_inr] at h
      refine To.bret ?_
      refine To.ret ?_
      replace h := some_in h
      subst h
      exact To.end1 rfl (rv_c (i := 0) ty47 rfl rfl)
set_option maxHeartbeats 2000000 in
theorem C_mcase_Codes_Next {x0 : T_mcase_Codes} {x1 : Int} {pp0 : Nat} {r : Int × T_mcase_Codes} (h : L_mcase_Codes_Next x0 x1 = some r) : MeetsO Try.prog 49 [VP.eq (.pointer (some ⟨pp0, 0, none⟩)), VP.of (x1)] [⟨some pp0, .var (x0 : T_mcase_Codes)⟩] (δ := Unit) (fun d => VP.of (r.1)) (fun d => [⟨some pp0, .var (r.2 : T_mcase_Codes)⟩]) := by
  unfold L_mcase_Codes_Next at h
  refine MeetsO.of Try.func49 rfl Try.ntmps49 rfl fun W A => ?_
  refine Wp.seq ?_
  refine Wp.reg ?_
  refine Sq.v (r_asg (look_int 0)) rfl rfl rfl ?_
  refine Sq.nil ?_
  refine To.next ?_
  refine Wp.seq ?_
  refine Wp.seq ?_
  refine Wp.reg ?_
  refine Sq.v (r_move (look_t rfl)) rfl rfl rfl ?_
  refine Sq.bring 0 rfl ?_
  obtain ⟨y1, hy1, h⟩ := bind_some h
  refine Sq.callO (Lin := [⟨some pp0, .var (x0 : T_mcase_Codes)⟩]) (Lr := []) en76 (C_mcase_Codes_Left hy1) ⟨look_t rfl, trivial⟩ rfl fun q1 => ?_
  refine Sq.v (r_not (look_t rfl)) rfl rfl rfl ?_
  refine Sq.v (r_move (look_t rfl)) rfl rfl rfl ?_
  refine Sq.g (fun hb => r_move (look_t rfl)) rfl rfl rfl rfl rfl ?_
  refine Sq.g (fun hb => r_lss (look_tc rfl hb) (look_int 1)) rfl rfl rfl rfl rfl ?_
  refine Sq.v (r_or (look_t rfl) (look_t rfl) (fun h => h)) rfl rfl rfl ?_
  refine Sq.nil ?_
  refine To.next ?_
  refine Wp.cond (look_t rfl) (fun hc => ?_) (fun hc => ?_)
  · replace h := cond_t hc h
    refine Wp.seq ?_
    refine Wp.reg ?_
    refine Sq.v (r_asg (look_int 0)) rfl rfl rfl ?_
    refine Sq.nil ?_
    refine To.next ?_
    refine Wp.ret ?_
    refine To.ret ?_
    refine To.bring 0 rfl ?_
    replace h := some_in h
    subst h
    exact To.endO1 () (.cons_cons _ (List.nil_sublist _)) rfl rfl (rvo_t rfl)
  · replace h := cond_f hc h
    refine Wp.skip ?_
    refine To.next ?_
    refine Wp.seq ?_
    refine Wp.reg ?_
    refine Sq.v (r_move (look_t rfl)) rfl rfl rfl ?_
    refine Sq.v (r_nck (look_t rfl)) rfl rfl rfl ?_
    refine Sq.v (r_fa fd120_1 (look_t rfl)) rfl rfl rfl ?_
    refine Sq.v (r_load (i := 0) ((Lens.id T_mcase_Codes).comp le_T_mcase_Codes_at) (r := x0.f_at) ty3 (look_t rfl) rfl rfl rfl) rfl rfl rfl ?_
    refine Sq.v (r_add (look_t rfl) (look_int 1)) rfl rfl rfl ?_
    refine Sq.v (r_nck (look_t rfl)) rfl rfl rfl ?_
    refine Sq.v (r_fa fd120_1 (look_t rfl)) rfl rfl rfl ?_
    refine Sq.store (i := 0) ((Lens.id T_mcase_Codes).comp le_T_mcase_Codes_at) (v := (w64 (x0.f_at + 1) : Int)) (b' := (({ x0 with f_at := w64 (x0.f_at + 1) } : T_mcase_Codes) : T_mcase_Codes)) ty3 (look_t rfl) (look_t rfl) rfl rfl rfl ?_
    refine Sq.nil ?_
    refine To.next ?_
    refine Wp.seq ?_
    obtain ⟨z1, hz1, h⟩ := bind_some h
    obtain ⟨k1, hk1, h⟩ := bind_some h
    obtain ⟨z2, hz2, h⟩ := bind_some h
    obtain ⟨y2, hy2, h⟩ := bind_some h
    refine Wp.draw mixed 14 [some 19, some 20, some 21, some 22, some 23, some 24, some 25, some 26, some 27, some 28, some 29, some 30, some 31, some 32] [[], [0], [1], [2], [], [4], [5], [6], [7], [3, 8], [9], [10], [], [11, 12]] [.val (VP.eq (.pointer (some ⟨pp0, 0, none⟩))), .val (VP.eq (.pointer (some ⟨pp0, 0, none⟩))), .val (VP.eq (.pointer (some ⟨pp0, 0 + 0, none⟩))), .val (VP.of (({ x0 with f_at := w64 (x0.f_at + 1) } : T_mcase_Codes).f_l)), .val (VP.eq (.pointer (some ⟨pp0, 0, none⟩))), .val (VP.eq (.pointer (some ⟨pp0, 0, none⟩))), .val (VP.eq (.pointer (some ⟨pp0, 0 + 1, none⟩))), .val (VP.of (({ x0 with f_at := w64 (x0.f_at + 1) } : T_mcase_Codes).f_at)), .val (VP.of (z1)), .val (VP.ptr (lget (({ x0 with f_at := w64 (x0.f_at + 1) } : T_mcase_Codes).f_l) k1)), .val (VP.of (lget (({ x0 with f_at := w64 (x0.f_at + 1) } : T_mcase_Codes).f_l) k1)), .val (VP.of (z2)), .val (VP.of (x1)), .val (VP.of (y2))] [false, false, false, false, false, false, false, false, false, false, false, false, false, false] (by kernel_rfl) rfl rfl rfl (fun ps1 => ⟨fun L' hL => HO.v (r_move (look_t rfl)) rfl, fun L' hL => HO.v (r_nck (look_t rfl)) rfl, fun L' hL => HO.v (r_fa fd120_0 (look_t rfl)) rfl, fun L' hL => HO.v (r_load (i := 0) ((Lens.id T_mcase_Codes).comp le_T_mcase_Codes_l) (r := ({ x0 with f_at := w64 (x0.f_at + 1) } : T_mcase_Codes).f_l) ty22 (look_t rfl) (hL _ _ rfl rfl) rfl rfl) rfl, fun L' hL => HO.v (r_move (look_t rfl)) rfl, fun L' hL => HO.v (r_nck (look_t rfl)) rfl, fun L' hL => HO.v (r_fa fd120_1 (look_t rfl)) rfl, fun L' hL => HO.v (r_load (i := 0) ((Lens.id T_mcase_Codes).comp le_T_mcase_Codes_at) (r := ({ x0 with f_at := w64 (x0.f_at + 1) } : T_mcase_Codes).f_at) ty3 (look_t rfl) (hL _ _ rfl rfl) rfl rfl) rfl, fun L' hL => HO.v ((r_sub (look_t rfl) (look_int 1)).as (some_in hz1)) rfl, fun L' hL => HO.v (r_ias (k := k1) Try.underlying22 ty5 (look_t rfl) (look_t rfl) (idx_some hk1)) rfl, fun L' hL => HO.v (r_loadp ty5 (look_t rfl)) rfl, fun L' hL => HO.v ((r_c8i Try.underlying5 Try.underlying3 (look_t rfl)).as (some_in hz2)) rfl, fun L' hL => HO.v (r_move (look_t rfl)) rfl, fun L' hL => HO.v (r_rem (look_t rfl) (look_t rfl) (modM_some hy2)) rfl, trivial⟩) fun ps1 => ?_
    refine Sq.v (r_asg (look_t rfl)) rfl rfl rfl ?_
    refine Sq.nil ?_
    refine To.next ?_
    refine Wp.ret ?_
    refine To.bring 0 rfl ?_
    replace h := some_in h
    subst h
    exact To.endO1 () (.cons_cons _ (List.nil_sublist _)) rfl rfl (rvo_t rfl)
set_option maxHeartbeats 2000000 in
theorem C_law20_Op_near {x0 : T_law20_Op}  {r : T_law20_Op} (h : L_law20_Op_near x0 = some r) : Meets Try.prog 14 [VP.of (x0)] (VP.of (r)) := by
  unfold L_law20_Op_near at h
  refine Meets.of Try.func14 rfl Try.ntmps14 rfl fun W A => ?_
  refine Wp.seq ?_
  refine Wp.reg ?_
  refine Sq.box (z := (x0 : T_law20_Op)) (look_t rfl) rfl fun p1 => ?_
  refine Sq.alloc zr49 rfl fun p2 => ?_
  refine Sq.nil ?_
  refine To.next ?_
  refine Wp.seq ?_
  refine Wp.seq ?_
  refine Wp.reg ?_
  refine Sq.v (r_fa fd49_1 (look_t rfl)) rfl rfl rfl ?_
  refine Sq.v (r_load (i := 1) ((Lens.id T_law20_Op).comp le_T_law20_Op_Raw) (r := x0.f_Raw) ty5 (look_t rfl) rfl rfl rfl) rfl rfl rfl ?_
  obtain ⟨y1, hy1, h⟩ := bind_some h
  refine Sq.v (r_rem8 (look_t rfl) (look_u8 8 rfl) (uremM_some hy1)) rfl rfl rfl ?_
  refine Sq.v (r_gtr8 (look_t rfl) (look_u8 0 rfl)) rfl rfl rfl ?_
  refine Sq.nil ?_
  refine To.next ?_
  obtain ⟨m1, hm1, h⟩ := bind_some h
  refine Wp.condM (γ := Unit) (fun g1 => [(0, VP.of (x0)), (1, VP.eq (.pointer (some ⟨p1, 0, none⟩))), (2, VP.eq (.pointer (some ⟨p2, 0, none⟩))), (6, VP.of (decide (y1 > (0#8))))]) (fun g1 => [⟨some p2, .var ((default : T_law20_Op) : T_law20_Op)⟩, ⟨some p1, .var (m1 : T_law20_Op)⟩]) (look_t rfl) (fun g1 => ?_) (fun hm hc => ?_) (fun hm hc => ?_)
  · clear hm1
    refine To.next ?_
    refine Wp.seq ?_
    refine Wp.reg ?_
    refine Sq.v (r_load (i := 1) (Lens.id T_law20_Op) (r := m1) ty49 (look_t rfl) rfl rfl rfl) rfl rfl rfl ?_
    refine Sq.store (i := 0) (Lens.id T_law20_Op) (v := (m1 : T_law20_Op)) (b' := (m1 : T_law20_Op)) ty49 (look_t rfl) (look_t rfl) rfl rfl rfl ?_
    refine Sq.nil ?_
    refine To.next ?_
    refine Wp.ret ?_
    replace h := some_in h
    subst h
    exact To.end1 rfl (rv_c (i := 0) ty49 rfl rfl)
  · have h := cond_t hc hm1
    obtain ⟨y2, hy2, h⟩ := bind_some h
    obtain ⟨y3, hy3, h⟩ := bind_some h
    obtain ⟨k1, hk1, h⟩ := bind_some h
    obtain ⟨y4, hy4, h⟩ := bind_some h
    obtain ⟨z1, hz1, h⟩ := bind_some h
    refine Wp.draw mixed 18 ((some 7) :: (some 8) :: (some 9) :: (some 10) :: (some 11) :: (some 12) :: (some 13) :: (some 14) :: (some 15) :: (some 16) :: (some 17) :: (some 18) :: (some 19) :: (some 20) :: (some 21) :: none :: (some 22) :: none :: []) ([] :: [0] :: [1] :: [] :: [] :: [4] :: [5] :: [3, 6] :: [7] :: [] :: [9] :: [10] :: [11] :: [12] :: [] :: [2, 14] :: [] :: [8, 16] :: []) (.val (VP.eq (.pointer (some ⟨p1, 0 + 2, none⟩))) :: .val (VP.of (x0.f_Controller)) :: .val (VP.of (y2)) :: .val (VP.of ([1, 2, 7] : List Int)) :: .val (VP.eq (.pointer (some ⟨p1, 0 + 3, none⟩))) :: .val (VP.of (x0.f_Role)) :: .val (VP.of (y3)) :: .val (VP.ptr (lget ([1, 2, 7] : List Int) k1)) :: .val (VP.of (lget ([1, 2, 7] : List Int) k1)) :: .val (VP.eq (.pointer (some ⟨p1, 0 + 4, none⟩))) :: .val (VP.eq (.pointer (some ⟨p1, 0 + 4 + 1, none⟩))) :: .val (VP.of (x0.f_Election.f_Lo)) :: .val (VP.of (y4)) :: .val (VP.of ({ (default : T_api_Value) with f_Lo := y4 } : T_api_Value)) :: .val (VP.eq (.pointer (some ⟨p1, 0 + 2, none⟩))) :: .sto 1 (.var (({ x0 with f_Controller := y2 } : T_law20_Op) : T_law20_Op)) :: .val (VP.eq (.pointer (some ⟨p1, 0 + 3, none⟩))) :: .sto 1 (.var (z1 : T_law20_Op)) :: []) (false :: false :: false :: false :: false :: false :: false :: false :: false :: false :: false :: false :: false :: false :: false :: true :: false :: true :: []) (by kernel_rfl) rfl rfl rfl (fun ps1 => ⟨fun L' hL => HO.v (r_fa fd49_2 (look_t rfl)) rfl, fun L' hL => HO.v (r_load (i := 1) ((Lens.id T_law20_Op).comp le_T_law20_Op_Controller) (r := x0.f_Controller) ty3 (look_t rfl) (hL _ _ rfl (by kernel_rfl)) rfl rfl) rfl, fun L' hL => HO.v (r_call en22 (C_mcase_Mod hy2) ⟨look_t rfl, look_int 4, trivial⟩) rfl, fun L' hL => HO.v (r_bsl (r := ([1, 2, 7] : List Int)) Try.underlying64 ty3 zr3 rfl rfl (.cons (by simp) (look_int 1) (.cons (by simp) (look_int 2) (.cons (by simp) (look_int 7) (.nil))))) rfl, fun L' hL => HO.v (r_fa fd49_3 (look_t rfl)) rfl, fun L' hL => HO.v (r_load (i := 1) ((Lens.id T_law20_Op).comp le_T_law20_Op_Role) (r := x0.f_Role) ty3 (look_t rfl) (hL _ _ rfl (by kernel_rfl)) rfl rfl) rfl, fun L' hL => HO.v (r_call en22 (C_mcase_Mod hy3) ⟨look_t rfl, look_int 3, trivial⟩) rfl, fun L' hL => HO.v (r_ias (k := k1) Try.underlying64 ty3 (look_t rfl) (look_t rfl) (idx_some hk1)) rfl, fun L' hL => HO.v (r_loadp ty3 (look_t rfl)) rfl, fun L' hL => HO.v (r_fa fd49_4 (look_t rfl)) rfl, fun L' hL => HO.v (r_fa fd47_1 (look_t rfl)) rfl, fun L' hL => HO.v (r_load (i := 1) (((Lens.id T_law20_Op).comp le_T_law20_Op_Election).comp le_T_api_Value_Lo) (r := x0.f_Election.f_Lo) ty45 (look_t rfl) (hL _ _ rfl (by kernel_rfl)) rfl rfl) rfl, fun L' hL => HO.v (r_rem64 (look_t rfl) (look_u64 6 rfl) (uremM_some hy4)) rfl, fun L' hL => HO.v (r_build (b := ({ (default : T_api_Value) with f_Lo := y4 } : T_api_Value)) rfl bu47 zr47 (.cons le_T_api_Value_Lo rfl (look_t rfl) rfl (.nil))) rfl, fun L' hL => HO.v (r_fa fd49_2 (look_t rfl)) rfl, ⟨_, _, rfl, fun L' hL => so_var (i := 1) ((Lens.id T_law20_Op).comp le_T_law20_Op_Controller) (v := (y2 : Int)) (b' := (({ x0 with f_Controller := y2 } : T_law20_Op) : T_law20_Op)) ty3 (look_t rfl) (look_t rfl) (hL _ _ rfl) rfl rfl⟩, fun L' hL => HO.v (r_fa fd49_3 (look_t rfl)) rfl, ⟨_, _, rfl, fun L' hL => so_var (i := 1) ((Lens.id T_law20_Op).comp le_T_law20_Op_Role) (v := (lget ([1, 2, 7] : List Int) k1 : Int)) (b' := (z1 : T_law20_Op)) ty3 (look_t rfl) (look_t rfl) (hL _ _ rfl) rfl (some_in hz1)⟩, trivial⟩) fun ps1 => ?_
    refine Sq.v (r_fa fd49_4 (look_t rfl)) rfl rfl rfl ?_
    obtain ⟨z2, hz2, h⟩ := bind_some h
    refine Sq.store (i := 1) ((Lens.id T_law20_Op).comp le_T_law20_Op_Election) (v := (({ (default : T_api_Value) with f_Lo := y4 } : T_api_Value) : T_api_Value)) (b' := (z2 : T_law20_Op)) ty47 (look_t rfl) (look_t rfl) rfl rfl (some_in hz2) ?_
    refine Sq.nil ?_
    replace h := some_in h
    subst h
    exact To.meet 0 rfl (.same rfl (.same rfl (.same rfl (.same rfl .nil)))) (hm ())
  · have h := cond_f hc hm1
    refine Wp.skip ?_
    replace h := some_in h
    subst h
    exact To.meet 0 rfl (.same rfl (.same rfl (.same rfl (.same rfl .nil)))) (hm ())
set_option maxHeartbeats 2000000 in
theorem C_session_of {x0 : T_session_State} {x1 : Int}  {r : T_session_Session × Bool} (h : L_session_of x0 x1 = some r) : Meets Try.prog 56 [VP.of (x0), VP.of (x1)] (VP.tup [VP.of (r.1), VP.of (r.2)]) := by
  unfold L_session_of at h
  refine Meets.of Try.func56 rfl Try.ntmps56 rfl fun W A => ?_
  refine Wp.seq ?_
  refine Wp.reg ?_
  refine Sq.box (z := (x0 : T_session_State)) (look_t rfl) rfl fun p1 => ?_
  refine Sq.box (z := (x1 : Int)) (look_t rfl) rfl fun p2 => ?_
  refine Sq.alloc zr138 rfl fun p3 => ?_
  refine Sq.v (r_asg (look_bool false)) rfl rfl rfl ?_
  refine Sq.nil ?_
  refine To.next ?_
  refine Wp.seq ?_
  refine Wp.reg ?_
  refine Sq.v (r_fa fd40_0 (look_t rfl)) rfl rfl rfl ?_
  refine Sq.v (r_load (i := 2) ((Lens.id T_session_State).comp le_T_session_State_Sessions) (r := x0.f_Sessions) ty37 (look_t rfl) rfl rfl rfl) rfl rfl rfl ?_
  refine Sq.share (α := Int) 1 3 rfl rfl ?_
  refine Sq.v (r_clo1 (F := (fun a0 => L_session_of_fn1 a0 x1)) (τs := [VP.ptr x1]) en97 ⟨look_t rfl, trivial⟩ (fun _ _ h => C_session_of_fn1 h)) rfl rfl rfl ?_
  obtain ⟨y1, hy1, h⟩ := bind_some h
  refine Sq.v (r_call en96 (C_slices_IndexFunc_session_Session hy1) ⟨look_t rfl, look_t rfl, trivial⟩) rfl rfl rfl ?_
  refine Sq.v (r_asg (look_t rfl)) rfl rfl rfl ?_
  refine Sq.nil ?_
  refine To.next ?_
  refine Wp.seq ?_
  refine Wp.seq ?_
  refine Wp.reg ?_
  refine Sq.v (r_move (look_t rfl)) rfl rfl rfl ?_
  refine Sq.v (r_lss (look_t rfl) (look_int 0)) rfl rfl rfl ?_
  refine Sq.nil ?_
  refine To.next ?_
  refine Wp.cond (look_t rfl) (fun hc => ?_) (fun hc => ?_)
  · replace h := cond_t hc h
    refine Wp.seq ?_
    refine Wp.reg ?_
    refine Sq.v (r_build (b := (default : T_session_Session)) rfl bu138 zr138 (.nil)) rfl rfl rfl ?_
    refine Sq.store (i := 0) (Lens.id T_session_Session) (v := ((default : T_session_Session) : T_session_Session)) (b' := ((default : T_session_Session) : T_session_Session)) ty138 (look_t rfl) (look_t rfl) rfl rfl rfl ?_
    refine Sq.v (r_asg (look_bool false)) rfl rfl rfl ?_
    refine Sq.nil ?_
    refine To.next ?_
    refine Wp.ret ?_
    refine To.ret ?_
    replace h := some_in h
    subst h
    exact To.end2 rfl (rv_c (i := 0) ty138 rfl rfl) (rv_t rfl)
  · replace h := cond_f hc h
    refine Wp.skip ?_
    refine To.next ?_
    refine Wp.seq ?_
    refine Wp.reg ?_
    refine Sq.v (r_fa fd40_0 (look_t rfl)) rfl rfl rfl ?_
    refine Sq.v (r_load (i := 2) ((Lens.id T_session_State).comp le_T_session_State_Sessions) (r := x0.f_Sessions) ty37 (look_t rfl) rfl rfl rfl) rfl rfl rfl ?_
    refine Sq.v (r_move (look_t rfl)) rfl rfl rfl ?_
    obtain ⟨k1, hk1, h⟩ := bind_some h
    refine Sq.v (r_ias (k := k1) Try.underlying37 ty138 (look_t rfl) (look_t rfl) (idx_some hk1)) rfl rfl rfl ?_
    refine Sq.v (r_loadp ty138 (look_t rfl)) rfl rfl rfl ?_
    refine Sq.store (i := 0) (Lens.id T_session_Session) (v := (lget x0.f_Sessions k1 : T_session_Session)) (b' := (lget x0.f_Sessions k1 : T_session_Session)) ty138 (look_t rfl) (look_t rfl) rfl rfl rfl ?_
    refine Sq.v (r_asg (look_bool true)) rfl rfl rfl ?_
    refine Sq.nil ?_
    refine To.next ?_
    refine Wp.ret ?_
    replace h := some_in h
    subst h
    exact To.end2 rfl (rv_c (i := 0) ty138 rfl rfl) (rv_t rfl)
set_option maxHeartbeats 2000000 in
theorem Cp0_slices_DeleteFunc_session_Session {x0 : List T_session_Session} {x1 : T_session_Session → Option Bool} {key00 : Option Nat} {cap00 : Nat} {r : (List T_session_Session)} (h : Lp0_slices_DeleteFunc_session_Session x0 x1 = some r) : MeetsO Try.prog 57 [VP.eq (slv key00 x0.length cap00), VP.fn1 Try.prog x1] [⟨key00, .row 138 (x0 : List T_session_Session) cap00⟩] (δ := Unit) (fun d => VP.of (r)) (fun d => []) := by
  unfold Lp0_slices_DeleteFunc_session_Session at h
  refine MeetsO.of Try.func57 rfl Try.ntmps57 rfl fun W A => ?_
  refine Wp.seq ?_
  refine Wp.reg ?_
  refine Sq.v (r_asg (look_nil (α := T_session_Session))) rfl rfl rfl ?_
  refine Sq.nil ?_
  refine To.next ?_
  refine Wp.seq ?_
  refine Wp.reg ?_
  refine Sq.v (r_move (look_t rfl)) rfl rfl rfl ?_
  refine Sq.v (r_move (look_t rfl)) rfl rfl rfl ?_
  obtain ⟨y1, hy1, h⟩ := bind_some h
  refine Sq.v (HR.lend (α := T_session_Session) 0 8 rfl rfl flat_int (r_call en96 (C_slices_IndexFunc_session_Session hy1) ⟨look_t rfl, look_t rfl, trivial⟩)) rfl rfl rfl ?_
  refine Sq.v (r_asg (look_t rfl)) rfl rfl rfl ?_
  refine Sq.nil ?_
  refine To.next ?_
  refine Wp.seq ?_
  refine Wp.seq ?_
  refine Wp.reg ?_
  refine Sq.v (r_move (look_t rfl)) rfl rfl rfl ?_
  refine Sq.v (r_eql (look_t rfl) (look_int (-1))) rfl rfl rfl ?_
  refine Sq.nil ?_
  refine To.next ?_
  refine Wp.cond (look_t rfl) (fun hc => ?_) (fun hc => ?_)
  · replace h := cond_t hc h
    refine Wp.seq ?_
    refine Wp.reg ?_
    refine Sq.v (r_move (look_t rfl)) rfl rfl rfl ?_
    refine Sq.v (r_asg (look_t rfl)) rfl rfl rfl ?_
    refine Sq.nil ?_
    refine To.next ?_
    refine Wp.ret ?_
    refine To.ret ?_
    refine To.freezeL (α := T_session_Session) 0 [4, 0, 8, 13] ⟨rfl, rfl, rfl, rfl, trivial⟩ rfl ?_
    replace h := some_in h
    subst h
    exact To.endO1 () (List.nil_sublist _) rfl rfl (rvo_t rfl)
  · replace h := cond_f hc h
    refine Wp.skip ?_
    refine To.next ?_
    refine Wp.seq ?_
    refine Wp.seq ?_
    refine Wp.reg ?_
    refine Sq.v (r_move (look_t rfl)) rfl rfl rfl ?_
    refine Sq.v (r_add (look_t rfl) (look_int 1)) rfl rfl rfl ?_
    refine Sq.v (r_asg (look_t rfl)) rfl rfl rfl ?_
    refine Sq.nil ?_
    refine To.next ?_
    refine Wp.block ?_
    obtain ⟨e1, hl, h⟩ := bind_some h
    refine Wp.loopG (σ := Int × Int × (List T_session_Session)) (ε := (Int × Int × Bool × (List T_session_Session))) (γ := (Option Nat × Nat)) (δ := (Option Nat × Nat)) hl (fun s1 g1 => [(0, VP.eq (slv g1.1 s1.2.2.length g1.2)), (1, VP.fn1 Try.prog x1), (4, VP.of ([] : List T_session_Session)), (5, VP.of (s1.1)), (6, VP.of (s1.2.1)), (12, VP.of (y1 == (-1)))]) (fun s1 g1 => [⟨g1.1, .row 138 (s1.2.2 : List T_session_Session) g1.2⟩]) (fun q1 => Exit.exit 0) (fun q1 g1 => [(0, VP.eq (slv g1.1 q1.2.2.2.length g1.2)), (1, VP.fn1 Try.prog x1), (4, VP.of ([] : List T_session_Session)), (5, VP.of (q1.1)), (6, VP.of (q1.2.1)), (12, VP.of (y1 == (-1))), (19, VP.of (q1.2.2.1))]) (fun q1 g1 => [⟨g1.1, .row 138 (q1.2.2.2 : List T_session_Session) g1.2⟩]) (key00, cap00) rfl (.same rfl (.same rfl (.same rfl (.same rfl (.same rfl (.same rfl .nil)))))) (fun s1 r h g1 => ?_) (fun g1 => ?_)
    · clear hl
      refine Wp.seq ?_
      refine Wp.seq ?_
      refine Wp.reg ?_
      refine Sq.v (r_move (look_t rfl)) rfl rfl rfl ?_
      refine Sq.v (r_move (look_t rfl)) rfl rfl rfl ?_
      refine Sq.v (r_lenO (i := 0) Try.underlying37 (look_t rfl) rfl rfl) rfl rfl rfl ?_
      refine Sq.v (r_lss (look_t rfl) (look_t rfl)) rfl rfl rfl ?_
      refine Sq.nil ?_
      refine To.next ?_
      refine Wp.cond (look_t rfl) (fun hc => ?_) (fun hc => ?_)
      · replace h := cond_t hc h
        refine Wp.skip ?_
        refine To.next ?_
        refine Wp.seq ?_
        refine Wp.block ?_
        refine Wp.seq ?_
        refine Wp.reg ?_
        refine Sq.v (r_move (look_t rfl)) rfl rfl rfl ?_
        refine Sq.v (r_move (look_t rfl)) rfl rfl rfl ?_
        obtain ⟨k1, hk1, h⟩ := bind_some h
        refine Sq.v (r_iaO (i := 0) (k := k1) (xs := (s1.2.2 : List T_session_Session)) Try.underlying37 ty138 (look_t rfl) (look_t rfl) rfl (idx_some hk1)) rfl rfl rfl ?_
        refine Sq.v (r_loadR (i := 0) (k := k1) (Lens.id T_session_Session) (r := (lget s1.2.2 k1)) ty138 (look_t rfl) rfl (idx_some hk1).1 rfl rfl) rfl rfl rfl ?_
        refine Sq.alloc zr138 rfl fun p1 => ?_
        refine Sq.store (i := 0) (Lens.id T_session_Session) (v := ((lget s1.2.2 k1) : T_session_Session)) (b' := ((lget s1.2.2 k1) : T_session_Session)) ty138 (look_t rfl) (look_t rfl) rfl rfl rfl ?_
        refine Sq.nil ?_
        refine To.next ?_
        refine Wp.seq ?_
        refine Wp.reg ?_
        refine Sq.v (r_move (look_t rfl)) rfl rfl rfl ?_
        refine Sq.v (r_load (i := 0) (Lens.id T_session_Session) (r := (lget s1.2.2 k1)) ty138 (look_t rfl) rfl rfl rfl) rfl rfl rfl ?_
        obtain ⟨y2, hy2, h⟩ := bind_some h
        refine Sq.v (r_callF1 (look_t rfl) (look_t rfl) hy2) rfl rfl rfl ?_
        refine Sq.v (r_not (look_t rfl)) rfl rfl rfl ?_
        refine Sq.nil ?_
        refine To.next ?_
        obtain ⟨m1, hm1, h⟩ := bind_some h
        refine Wp.condM (γ := (Option Nat × Nat)) (fun g2 => [(0, VP.eq (slv g2.1 m1.2.length g2.2)), (1, VP.fn1 Try.prog x1), (4, VP.of ([] : List T_session_Session)), (5, VP.of (m1.1)), (6, VP.of (s1.2.1)), (7, VP.eq (.pointer (some ⟨p1, 0, none⟩))), (12, VP.of (y1 == (-1))), (19, VP.of (decide (s1.2.1 < (s1.2.2.length : Int)))), (29, VP.of (!y2))]) (fun g2 => [⟨some p1, .var ((lget s1.2.2 k1) : T_session_Session)⟩, ⟨g2.1, .row 138 (m1.2 : List T_session_Session) g2.2⟩]) (look_t rfl) (fun g2 => ?_) (fun hm hc => ?_) (fun hm hc => ?_)
        · clear hm1
          refine To.bnorm ?_
          refine To.next ?_
          refine Wp.reg ?_
          refine Sq.v (r_move (look_t rfl)) rfl rfl rfl ?_
          refine Sq.v (r_add (look_t rfl) (look_int 1)) rfl rfl rfl ?_
          refine Sq.v (r_asg (look_t rfl)) rfl rfl rfl ?_
          refine Sq.nil ?_
          replace h := some_in h
          subst h
          exact To.roundG (g2.1, g2.2) 1 rfl (.same rfl (.same rfl (.same rfl (.same rfl (.same rfl (.same rfl .nil))))))
        · have h := cond_t hc hm1
          refine Wp.seq ?_
          refine Wp.reg ?_
          refine Sq.v (r_move (look_t rfl)) rfl rfl rfl ?_
          refine Sq.v (r_move (look_t rfl)) rfl rfl rfl ?_
          refine Sq.v (r_load (i := 0) (Lens.id T_session_Session) (r := (lget s1.2.2 k1)) ty138 (look_t rfl) rfl rfl rfl) rfl rfl rfl ?_
          obtain ⟨k2, hk2, h⟩ := bind_some h
          refine Sq.v (r_iaO (i := 1) (k := k2) (xs := (s1.2.2 : List T_session_Session)) Try.underlying37 ty138 (look_t rfl) (look_t rfl) rfl (idx_some hk2)) rfl rfl rfl ?_
          refine Sq.storeR (i := 1) (k := k2) (Lens.id T_session_Session) (v := ((lget s1.2.2 k1) : T_session_Session)) (r := (lset s1.2.2 k2 (lget s1.2.2 k1) : List T_session_Session)) ty138 (look_t rfl) (look_t rfl) rfl (idx_some hk2).1 rfl rfl ?_
          refine Sq.relen (m := (lset s1.2.2 k2 (lget s1.2.2 k1)).length) 0 rfl (lset_len rfl) ?_
          refine Sq.relen (m := (lset s1.2.2 k2 (lget s1.2.2 k1)).length) 17 rfl (lset_len rfl) ?_
          refine Sq.relen (m := (lset s1.2.2 k2 (lget s1.2.2 k1)).length) 22 rfl (lset_len rfl) ?_
          refine Sq.relen (m := (lset s1.2.2 k2 (lget s1.2.2 k1)).length) 30 rfl (lset_len rfl) ?_
          refine Sq.nil ?_
          refine To.next ?_
          refine Wp.reg ?_
          refine Sq.v (r_move (look_t rfl)) rfl rfl rfl ?_
          refine Sq.v (r_add (look_t rfl) (look_int 1)) rfl rfl rfl ?_
          refine Sq.v (r_asg (look_t rfl)) rfl rfl rfl ?_
          refine Sq.nil ?_
          replace h := some_in h
          subst h
          exact To.meet 0 rfl (.same rfl (.same rfl (.same rfl (.same rfl (.same rfl (.same rfl (.same rfl (.same rfl (.same rfl .nil))))))))) (hm (g1.1, g1.2))
        · have h := cond_f hc hm1
          refine Wp.skip ?_
          replace h := some_in h
          subst h
          exact To.meet 0 rfl (.same rfl (.same rfl (.same rfl (.same rfl (.same rfl (.same rfl (.same rfl (.same rfl (.same rfl .nil))))))))) (hm (g1.1, g1.2))
      · replace h := cond_f hc h
        refine Wp.exit ?_
        refine To.exit ?_
        replace h := some_in h
        subst h
        exact To.leaveG (g1.1, g1.2) 0 rfl (by simp) rfl (.same rfl (.same rfl (.same rfl (.same rfl (.same rfl (.same rfl (.same rfl .nil)))))))
    · clear hl
      refine To.bexit ?_
      refine To.next ?_
      refine Wp.seq ?_
      refine Wp.reg ?_
      refine Sq.v (r_move (look_t rfl)) rfl rfl rfl ?_
      refine Sq.v (r_move (look_t rfl)) rfl rfl rfl ?_
      obtain ⟨y3, hy3, h⟩ := bind_some h
      refine Sq.v (r_sliceO (i := 0) (xs := (e1.2.2.2 : List T_session_Session)) (m := y3.1) (n := y3.2) Try.underlying37 ty138 (look_t rfl) rfl (.some (look_t rfl)) .none (cutM_some hy3).1 (cutM_some hy3).2.1 (cutM_some hy3).2.2) rfl rfl rfl ?_
      obtain ⟨z1, hz1, h⟩ := bind_some h
      refine Sq.clear (i := 0) (r := z1) Try.underlying37 ty138 zr138 rfl (look_t rfl) rfl (by have := (cutM_some hy3).2.2; omega) (some_in hz1) ?_
      refine Sq.relen (m := z1.length) 0 rfl (lclear_len (by have := (cutM_some hy3).2.2; omega) (some_in hz1)) ?_
      refine Sq.relen (m := z1.length) 36 rfl (lclear_len (by have := (cutM_some hy3).2.2; omega) (some_in hz1)) ?_
      refine Sq.nil ?_
      refine To.next ?_
      refine Wp.seq ?_
      refine Wp.reg ?_
      refine Sq.v (r_move (look_t rfl)) rfl rfl rfl ?_
      refine Sq.v (r_move (look_t rfl)) rfl rfl rfl ?_
      obtain ⟨k3, hk3, h⟩ := bind_some h
      refine Sq.v (r_sliceO (i := 0) (xs := (z1 : List T_session_Session)) (m := 0) (n := k3) Try.underlying37 ty138 (look_t rfl) rfl .none (.some (look_t rfl)) rfl (idx_some hk3).2 ⟨Nat.zero_le _, Nat.le_of_lt_succ (idx_some hk3).1⟩) rfl rfl rfl ?_
      obtain ⟨z2, hz2, h⟩ := bind_some h
      refine Sq.trunc (i := 0) (n := k3) (xs := (z1 : List T_session_Session)) (r := z2) 41 rfl rfl (Nat.le_of_lt_succ (idx_some hk3).1) (some_in hz2) ?_
      refine Sq.v (r_asg (look_t rfl)) rfl rfl rfl ?_
      refine Sq.nil ?_
      refine To.next ?_
      refine Wp.ret ?_
      refine To.freezeL (α := T_session_Session) 0 [4, 41] ⟨rfl, rfl, trivial⟩ rfl ?_
      replace h := some_in h
      subst h
      exact To.endO1 () (List.nil_sublist _) rfl rfl (rvo_t rfl)
set_option maxHeartbeats 2000000 in
theorem C_check_RoleOf {x0 : T_api_Schema} {x1 : Int}  {r : Int} (h : L_check_RoleOf x0 x1 = some r) : Meets Try.prog 64 [VP.of (x0), VP.of (x1)] (VP.of (r)) := by
  unfold L_check_RoleOf at h
  refine Meets.of Try.func64 rfl Try.ntmps64 rfl fun W A => ?_
  refine Wp.seq ?_
  refine Wp.reg ?_
  refine Sq.box (z := (x0 : T_api_Schema)) (look_t rfl) rfl fun p1 => ?_
  refine Sq.box (z := (x1 : Int)) (look_t rfl) rfl fun p2 => ?_
  refine Sq.v (r_asg (look_int 0)) rfl rfl rfl ?_
  refine Sq.nil ?_
  refine To.next ?_
  refine Wp.seq ?_
  refine Wp.reg ?_
  refine Sq.v (r_fa fd33_6 (look_t rfl)) rfl rfl rfl ?_
  refine Sq.v (r_load (i := 1) ((Lens.id T_api_Schema).comp le_T_api_Schema_Roles) (r := x0.f_Roles) ty30 (look_t rfl) rfl rfl rfl) rfl rfl rfl ?_
  refine Sq.share (α := Int) 0 3 rfl rfl ?_
  refine Sq.v (r_clo1 (F := (fun a0 => L_check_RoleOf_fn1 a0 x1)) (τs := [VP.ptr x1]) en99 ⟨look_t rfl, trivial⟩ (fun _ _ h => C_check_RoleOf_fn1 h)) rfl rfl rfl ?_
  obtain ⟨y1, hy1, h⟩ := bind_some h
  refine Sq.v (r_call en98 (C_slices_IndexFunc_api_Role hy1) ⟨look_t rfl, look_t rfl, trivial⟩) rfl rfl rfl ?_
  refine Sq.v (r_asg (look_t rfl)) rfl rfl rfl ?_
  refine Sq.nil ?_
  refine To.next ?_
  refine Wp.ret ?_
  replace h := some_in h
  subst h
  exact To.end1 rfl (rv_t rfl)
set_option maxHeartbeats 2000000 in
theorem C_slices_ContainsFunc_session_Session {x0 : List T_session_Session} {x1 : T_session_Session → Option Bool}  {r : Bool} (h : L_slices_ContainsFunc_session_Session x0 x1 = some r) : Meets Try.prog 65 [VP.of (x0), VP.fn1 Try.prog x1] (VP.of (r)) := by
  unfold L_slices_ContainsFunc_session_Session at h
  refine Meets.of Try.func65 rfl Try.ntmps65 rfl fun W A => ?_
  refine Wp.seq ?_
  refine Wp.reg ?_
  refine Sq.v (r_asg (look_bool false)) rfl rfl rfl ?_
  refine Sq.nil ?_
  refine To.next ?_
  refine Wp.seq ?_
  refine Wp.reg ?_
  refine Sq.v (r_move (look_t rfl)) rfl rfl rfl ?_
  refine Sq.v (r_move (look_t rfl)) rfl rfl rfl ?_
  obtain ⟨y1, hy1, h⟩ := bind_some h
  refine Sq.v (r_call en96 (C_slices_IndexFunc_session_Session hy1) ⟨look_t rfl, look_t rfl, trivial⟩) rfl rfl rfl ?_
  refine Sq.v (r_geq (look_t rfl) (look_int 0)) rfl rfl rfl ?_
  refine Sq.v (r_asg (look_t rfl)) rfl rfl rfl ?_
  refine Sq.nil ?_
  refine To.next ?_
  refine Wp.ret ?_
  replace h := some_in h
  subst h
  exact To.end1 rfl (rv_t rfl)
end Go.Proofs.Ytodajdohokmjnaa
