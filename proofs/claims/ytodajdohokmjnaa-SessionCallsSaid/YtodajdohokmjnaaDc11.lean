/-
  Printed by the decompiler (dec.py) out of the seat's translation. Each function meets its functional program. Conditions: none.
-/
import Derived.Test.YtodajdohokmjnaaDc6
import Derived.Test.YtodajdohokmjnaaDc7
import Derived.Test.YtodajdohokmjnaaDc8
namespace Go.Proofs.Ytodajdohokmjnaa
open Go Gv
set_option linter.unusedVariables false
set_option linter.unusedSimpArgs false
set_option maxRecDepth 100000
set_option maxHeartbeats 2000000 in
theorem C_session_Primary {x0 : T_session_State} {x1 : Int}  {r : Int × Bool} (h : L_session_Primary x0 x1 = some r) : Meets Try.prog 23 [VP.of (x0), VP.of (x1)] (VP.tup [VP.of (r.1), VP.of (r.2)]) := by
  unfold L_session_Primary at h
  refine Meets.of Try.func23 rfl Try.ntmps23 rfl fun W A => ?_
  refine Wp.seq ?_
  refine Wp.reg ?_
  refine Sq.box (z := (x0 : T_session_State)) (look_t rfl) rfl fun p1 => ?_
  refine Sq.v (r_asg (look_int 0)) rfl rfl rfl ?_
  refine Sq.v (r_asg (look_bool false)) rfl rfl rfl ?_
  refine Sq.nil ?_
  refine To.next ?_
  refine Wp.seq ?_
  refine Wp.reg ?_
  refine Sq.v (r_load (i := 0) (Lens.id T_session_State) (r := x0) ty40 (look_t rfl) rfl rfl rfl) rfl rfl rfl ?_
  refine Sq.v (r_move (look_t rfl)) rfl rfl rfl ?_
  obtain ⟨y1, hy1, h⟩ := bind_some h
  refine Sq.v (r_call en66 (C_session_top hy1) ⟨look_t rfl, look_t rfl, trivial⟩) rfl rfl rfl ?_
  refine Sq.alloc zr47 rfl fun p2 => ?_
  refine Sq.store (i := 0) (Lens.id T_api_Value) (v := (y1 : T_api_Value)) (b' := (y1 : T_api_Value)) ty47 (look_t rfl) (look_t rfl) rfl rfl rfl ?_
  refine Sq.nil ?_
  refine To.next ?_
  refine Wp.seq ?_
  refine Wp.seq ?_
  refine Wp.reg ?_
  refine Sq.v (r_fa fd40_0 (look_t rfl)) rfl rfl rfl ?_
  refine Sq.v (r_load (i := 1) ((Lens.id T_session_State).comp le_T_session_State_Sessions) (r := x0.f_Sessions) ty37 (look_t rfl) rfl rfl rfl) rfl rfl rfl ?_
  refine Sq.v (r_len Try.underlying37 (look_t rfl)) rfl rfl rfl ?_
  refine Sq.v (r_move (look_int 0)) rfl rfl rfl ?_
  refine Sq.nil ?_
  refine To.next ?_
  refine Wp.block ?_
  obtain ⟨e1, hl, h⟩ := bind_some h
  refine Wp.loopG (σ := Int) (ε := (Int × Bool) ⊕ (Int × Bool × Int × Bool × Bool)) (γ := Unit) (δ := Unit) hl (fun s1 g1 => [(0, VP.of (x0)), (1, VP.of (x1)), (2, VP.eq (.pointer (some ⟨p1, 0, none⟩))), (4, VP.of (0 : Int)), (5, VP.of (false)), (6, VP.eq (.pointer (some ⟨p2, 0, none⟩))), (13, VP.of (x0.f_Sessions)), (14, VP.of (x0.f_Sessions.length : Int)), (15, VP.of (s1))]) (fun s1 g1 => [⟨some p2, .var (y1 : T_api_Value)⟩, ⟨some p1, .var (x0 : T_session_State)⟩]) (fun q1 => Sum.elim (fun q1 => Exit.exit 0) (fun q1 => Exit.ret) q1) (fun q1 g1 => Sum.elim (fun q1 => [(0, VP.of (x0)), (1, VP.of (x1)), (2, VP.eq (.pointer (some ⟨p1, 0, none⟩))), (4, VP.of (0 : Int)), (5, VP.of (false)), (6, VP.eq (.pointer (some ⟨p2, 0, none⟩))), (13, VP.of (x0.f_Sessions)), (14, VP.of (x0.f_Sessions.length : Int)), (15, VP.of (q1.1)), (16, VP.of (q1.2))]) (fun q1 => [(0, VP.of (x0)), (1, VP.of (x1)), (2, VP.eq (.pointer (some ⟨p1, 0, none⟩))), (4, VP.of (q1.1)), (5, VP.of (q1.2.1)), (6, VP.eq (.pointer (some ⟨p2, 0, none⟩))), (13, VP.of (x0.f_Sessions)), (14, VP.of (x0.f_Sessions.length : Int)), (15, VP.of (q1.2.2.1)), (16, VP.of (q1.2.2.2.1)), (28, VP.of (q1.2.2.2.2))]) q1) (fun q1 g1 => Sum.elim (fun q1 => [⟨some p2, .var (y1 : T_api_Value)⟩, ⟨some p1, .var (x0 : T_session_State)⟩]) (fun q1 => [⟨some p2, .var (y1 : T_api_Value)⟩, ⟨some p1, .var (x0 : T_session_State)⟩]) q1) () rfl (.same rfl (.same rfl (.same rfl (.same rfl (.same rfl (.same rfl (.same rfl (.same rfl (.same rfl .nil))))))))) (fun s1 r h g1 => ?_) (fun g1 => ?_)
  · clear hl
    refine Wp.seq ?_
    refine Wp.reg ?_
    refine Sq.v (r_lss (look_t rfl) (look_t rfl)) rfl rfl rfl ?_
    refine Sq.nil ?_
    refine To.next ?_
    refine Wp.seq ?_
    refine Wp.cond (look_t rfl) (fun hc => ?_) (fun hc => ?_)
    · replace h := cond_t hc h
      refine Wp.skip ?_
      refine To.next ?_
      refine Wp.seq ?_
      refine Wp.block ?_
      refine Wp.seq ?_
      refine Wp.reg ?_
      obtain ⟨k1, hk1, h⟩ := bind_some h
      refine Sq.v (r_ias (k := k1) Try.underlying37 ty138 (look_t rfl) (look_t rfl) (idx_some hk1)) rfl rfl rfl ?_
      refine Sq.v (r_loadp ty138 (look_t rfl)) rfl rfl rfl ?_
      refine Sq.alloc zr138 rfl fun p3 => ?_
      refine Sq.store (i := 0) (Lens.id T_session_Session) (v := (lget x0.f_Sessions k1 : T_session_Session)) (b' := (lget x0.f_Sessions k1 : T_session_Session)) ty138 (look_t rfl) (look_t rfl) rfl rfl rfl ?_
      refine Sq.nil ?_
      refine To.next ?_
      refine Wp.seq ?_
      refine Wp.reg ?_
      refine Sq.v (r_fa fd138_1 (look_t rfl)) rfl rfl rfl ?_
      refine Sq.v (r_load (i := 0) ((Lens.id T_session_Session).comp le_T_session_Session_Role) (r := (lget x0.f_Sessions k1).f_Role) ty3 (look_t rfl) rfl rfl rfl) rfl rfl rfl ?_
      refine Sq.v (r_move (look_t rfl)) rfl rfl rfl ?_
      refine Sq.v (r_eql (look_t rfl) (look_t rfl)) rfl rfl rfl ?_
      refine Sq.v (r_move (look_t rfl)) rfl rfl rfl ?_
      refine Sq.g (fun hb => r_fa fd138_2 (look_t rfl)) rfl rfl rfl rfl rfl ?_
      refine Sq.g (fun hb => r_load (i := 0) ((Lens.id T_session_Session).comp le_T_session_Session_Election) (r := (lget x0.f_Sessions k1).f_Election) ty47 (look_tc rfl hb) rfl rfl rfl) rfl rfl rfl rfl rfl ?_
      refine Sq.g (fun hb => r_load (i := 1) (Lens.id T_api_Value) (r := y1) ty47 (look_t rfl) rfl rfl rfl) rfl rfl rfl rfl rfl ?_
      refine Sq.g (fun hb => r_eqA eqv47 rfl eqg47 rfl (look_tc rfl hb) (look_tc rfl hb)) rfl rfl rfl rfl rfl ?_
      obtain ⟨z1, hz1, h⟩ := bind_some h
      refine Sq.v ((r_and (look_t rfl) (look_t rfl) (fun h => h)).as (some_in hz1)) rfl rfl rfl ?_
      refine Sq.nil ?_
      refine To.next ?_
      refine Wp.cond (look_t rfl) (fun hc => ?_) (fun hc => ?_)
      · replace h := cond_t hc h
        refine Wp.seq ?_
        refine Wp.reg ?_
        refine Sq.v (r_fa fd138_0 (look_t rfl)) rfl rfl rfl ?_
        refine Sq.v (r_load (i := 0) ((Lens.id T_session_Session).comp le_T_session_Session_Controller) (r := (lget x0.f_Sessions k1).f_Controller) ty3 (look_t rfl) rfl rfl rfl) rfl rfl rfl ?_
        refine Sq.v (r_asg (look_t rfl)) rfl rfl rfl ?_
        refine Sq.v (r_asg (look_bool true)) rfl rfl rfl ?_
        refine Sq.nil ?_
        refine To.next ?_
        refine Wp.ret ?_
        refine To.bret ?_
        refine To.ret ?_
        replace h := some_in h
        subst h
        exact To.leaveG () 1 rfl (by simp) rfl (.same rfl (.same rfl (.same rfl (.same rfl (.same rfl (.same rfl (.same rfl (.same rfl (.same rfl (.same rfl (.same rfl .nil)))))))))))
      · replace h := cond_f hc h
        refine Wp.skip ?_
        refine To.bnorm ?_
        refine To.next ?_
        refine Wp.reg ?_
        refine Sq.v (r_add (look_t rfl) (look_int 1)) rfl rfl rfl ?_
        refine Sq.v (r_move (look_t rfl)) rfl rfl rfl ?_
        refine Sq.nil ?_
        replace h := some_in h
        subst h
        exact To.roundG () 1 rfl (.same rfl (.same rfl (.same rfl (.same rfl (.same rfl (.same rfl (.same rfl (.same rfl (.same rfl .nil)))))))))
    · replace h := cond_f hc h
      refine Wp.exit ?_
      refine To.exit ?_
      replace h := some_in h
      subst h
      exact To.leaveG () 0 rfl (by simp) rfl (.same rfl (.same rfl (.same rfl (.same rfl (.same rfl (.same rfl (.same rfl (.same rfl (.same rfl (.same rfl .nil))))))))))
  · clear hl
    rcases e1 with e1 | e1
    · simp only [Sum.elim_inl] at h
      refine To.bexit ?_
      refine To.next ?_
      refine Wp.seq ?_
      refine Wp.reg ?_
      refine Sq.v (r_asg (look_int 0)) rfl rfl rfl ?_
      refine Sq.v (r_asg (look_bool false)) rfl rfl rfl ?_
      refine Sq.nil ?_
      refine To.next ?_
      refine Wp.ret ?_
      replace h := some_in h
      subst h
      exact To.end2 rfl (rv_t rfl) (rv_t rfl)
    · simp only [Sum.elim_inr] at h
      refine To.bret ?_
      refine To.ret ?_
      replace h := some_in h
      subst h
      exact To.end2 rfl (rv_t rfl) (rv_t rfl)
set_option maxHeartbeats 2000000 in
theorem C_mcase_Codes_states {x0 : T_mcase_Codes} {pp0 : Nat} {r : (List T_api_State) × T_mcase_Codes} (h : L_mcase_Codes_states x0 = some r) : MeetsO Try.prog 50 [VP.eq (.pointer (some ⟨pp0, 0, none⟩))] [⟨some pp0, .var (x0 : T_mcase_Codes)⟩] (δ := Unit) (fun d => VP.of (r.1)) (fun d => [⟨some pp0, .var (r.2 : T_mcase_Codes)⟩]) := by
  unfold L_mcase_Codes_states at h
  refine MeetsO.of Try.func50 rfl Try.ntmps50 rfl fun W A => ?_
  refine Wp.seq ?_
  refine Wp.reg ?_
  refine Sq.v (r_asg (look_nil (α := T_api_State))) rfl rfl rfl ?_
  refine Sq.nil ?_
  refine To.next ?_
  refine Wp.seq ?_
  refine Wp.reg ?_
  refine Sq.v (r_bsl (r := ([0, 0, 65535, 3] : List Int)) Try.underlying64 ty3 zr3 rfl rfl (.cons (by simp) (look_int 0) (.cons (by simp) (look_int 0) (.cons (by simp) (look_int 65535) (.cons (by simp) (look_int 3) (.nil)))))) rfl rfl rfl ?_
  refine Sq.v (r_asg (look_t rfl)) rfl rfl rfl ?_
  refine Sq.nil ?_
  refine To.next ?_
  refine Wp.seq ?_
  refine Wp.reg ?_
  refine Sq.v (r_move (look_t rfl)) rfl rfl rfl ?_
  refine Sq.v (r_move (look_t rfl)) rfl rfl rfl ?_
  refine Sq.bring 0 rfl ?_
  obtain ⟨y1, hy1, h⟩ := bind_some h
  refine Sq.callO (Lin := [⟨some pp0, .var (x0 : T_mcase_Codes)⟩]) (Lr := []) en49 (C_mcase_Codes_Next hy1) ⟨look_t rfl, look_int 4, trivial⟩ rfl fun q1 => ?_
  obtain ⟨k1, hk1, h⟩ := bind_some h
  refine Sq.v (r_ias (k := k1) Try.underlying64 ty3 (look_t rfl) (look_t rfl) (idx_some hk1)) rfl rfl rfl ?_
  refine Sq.v (r_loadp ty3 (look_t rfl)) rfl rfl rfl ?_
  refine Sq.v (r_buildX (b := ({ (default : T_api_State) with f_ID := 1, f_Header := 1, f_Select := 4, f_Default := lget ([0, 0, 65535, 3] : List Int) k1 } : T_api_State)) [3] zh196_3 rfl bu196 zr196 (.cons le_T_api_State_ID rfl (look_int 1) rfl (by rfl) (.cons le_T_api_State_Header rfl (look_int 1) rfl (by rfl) (.cons le_T_api_State_Select rfl (look_int 4) rfl (by rfl) (.cons le_T_api_State_Default rfl (look_t rfl) rfl (by rfl) (.nil)))))) rfl rfl rfl ?_
  refine Sq.own (α := T_api_Case) 198 ?_
  refine Sq.allocX (z := (default : T_api_State)) [3] zh196_3 zr196 rfl fun p1 => ?_
  refine Sq.own (α := T_api_Case) 198 ?_
  refine Sq.storeW (i := 1) ty196 (look_t rfl) (look_t rfl) rfl ?_
  refine Sq.nil ?_
  refine To.next ?_
  refine Wp.seq ?_
  refine Wp.reg ?_
  refine Sq.v (r_build (b := ({ (default : T_api_Value) with f_Lo := 1#64 } : T_api_Value)) rfl bu47 zr47 (.cons le_T_api_Value_Lo rfl (look_u64 1 rfl) rfl (.nil))) rfl rfl rfl ?_
  refine Sq.v (r_build (b := ({ (default : T_api_Value) with f_Lo := 15#64 } : T_api_Value)) rfl bu47 zr47 (.cons le_T_api_Value_Lo rfl (look_u64 15 rfl) rfl (.nil))) rfl rfl rfl ?_
  obtain ⟨z1, hz1, h⟩ := bind_some h
  refine Sq.v ((r_build (b := { f_Value := ({ (default : T_api_Value) with f_Lo := 1#64 } : T_api_Value), f_Mask := ({ (default : T_api_Value) with f_Lo := 15#64 } : T_api_Value), f_Next := 2 : T_api_Case }) rfl bu198 zr198 (.cons le_T_api_Case_Value rfl (look_t rfl) rfl (.cons le_T_api_Case_Mask rfl (look_t rfl) rfl (.cons le_T_api_Case_Next rfl (look_int 2) rfl (.nil))))).as (some_in hz1)) rfl rfl rfl ?_
  refine Sq.v (r_build (b := ({ (default : T_api_Value) with f_Lo := 2#64 } : T_api_Value)) rfl bu47 zr47 (.cons le_T_api_Value_Lo rfl (look_u64 2 rfl) rfl (.nil))) rfl rfl rfl ?_
  refine Sq.v (r_build (b := ({ (default : T_api_Value) with f_Lo := 3#64 } : T_api_Value)) rfl bu47 zr47 (.cons le_T_api_Value_Lo rfl (look_u64 3 rfl) rfl (.nil))) rfl rfl rfl ?_
  obtain ⟨z2, hz2, h⟩ := bind_some h
  refine Sq.v ((r_build (b := { f_Value := ({ (default : T_api_Value) with f_Lo := 2#64 } : T_api_Value), f_Mask := ({ (default : T_api_Value) with f_Lo := 3#64 } : T_api_Value), f_Next := 3 : T_api_Case }) rfl bu198 zr198 (.cons le_T_api_Case_Value rfl (look_t rfl) rfl (.cons le_T_api_Case_Mask rfl (look_t rfl) rfl (.cons le_T_api_Case_Next rfl (look_int 3) rfl (.nil))))).as (some_in hz2)) rfl rfl rfl ?_
  refine Sq.bslO (α := T_api_Case) (r := [z1, z2]) Try.underlying194 ty198 zr198 rfl rfl (.cons (by simp) (look_t rfl) (.cons (by simp) (look_t rfl) (.nil))) rfl fun key1 => ?_
  refine Sq.v (r_fa fd196_3 (look_t rfl)) rfl rfl rfl ?_
  refine Sq.storeH (i := 2) (γ := T_api_Case) (b' := (({ ({ (default : T_api_State) with f_ID := 1, f_Header := 1, f_Select := 4, f_Default := lget ([0, 0, 65535, 3] : List Int) k1 } : T_api_State) with f_Cases := [] } : T_api_State) : T_api_State)) (os' := [(3, slv key1 [z1, z2].length 2)]) ((Lens.id T_api_State).comp le_T_api_State_Cases) ty194 (look_t rfl) (look_t rfl) slv_one rfl rfl rfl rfl ?_
  refine Sq.nil ?_
  refine To.next ?_
  refine Wp.seq ?_
  refine Wp.seq ?_
  refine Wp.reg ?_
  refine Sq.v (r_move (look_t rfl)) rfl rfl rfl ?_
  refine Sq.bring 4 rfl ?_
  obtain ⟨y2, hy2, h⟩ := bind_some h
  refine Sq.callO (Lin := [⟨some pp0, .var (y1.2 : T_mcase_Codes)⟩]) (Lr := [⟨key1, .row 198 ([z1, z2] : List T_api_Case) 2⟩, ⟨none, .row 198 (([] : List T_api_Case) : List T_api_Case) 0⟩, ⟨some p1, .varX (({ ({ (default : T_api_State) with f_ID := 1, f_Header := 1, f_Select := 4, f_Default := lget ([0, 0, 65535, 3] : List Int) k1 } : T_api_State) with f_Cases := [] } : T_api_State) : T_api_State) [(3, slv key1 [z1, z2].length 2)]⟩, ⟨none, .row 198 (([] : List T_api_Case) : List T_api_Case) 0⟩]) en54 (C_mcase_Codes_Bool hy2) ⟨look_t rfl, trivial⟩ rfl fun q2 => ?_
  refine Sq.nil ?_
  refine To.next ?_
  obtain ⟨m1, hm1, h⟩ := bind_some h
  refine Wp.condM (γ := (Option Nat × Nat)) (fun g1 => [(0, VP.eq (.pointer (some ⟨pp0, 0, none⟩))), (2, VP.of ([] : List T_api_State)), (3, VP.of ([0, 0, 65535, 3] : List Int)), (4, VP.eq (.pointer (some ⟨p1, 0, none⟩))), (23, VP.of (y2.1))]) (fun g1 => [⟨some pp0, .var (m1.1 : T_mcase_Codes)⟩, ⟨g1.1, .row 198 (m1.2 : List T_api_Case) g1.2⟩, ⟨none, .row 198 (([] : List T_api_Case) : List T_api_Case) 0⟩, ⟨some p1, .varX (({ ({ (default : T_api_State) with f_ID := 1, f_Header := 1, f_Select := 4, f_Default := lget ([0, 0, 65535, 3] : List Int) k1 } : T_api_State) with f_Cases := [] } : T_api_State) : T_api_State) [(3, slv g1.1 m1.2.length g1.2)]⟩, ⟨none, .row 198 (([] : List T_api_Case) : List T_api_Case) 0⟩]) (look_t rfl) (fun g1 => ?_) (fun hm hc => ?_) (fun hm hc => ?_)
  · clear hm1
    refine To.next ?_
    refine Wp.seq ?_
    refine Wp.reg ?_
    refine Sq.v (r_move (look_t rfl)) rfl rfl rfl ?_
    refine Sq.v (r_move (look_t rfl)) rfl rfl rfl ?_
    refine Sq.bring 0 rfl ?_
    obtain ⟨y3, hy3, h⟩ := bind_some h
    refine Sq.callO (Lin := [⟨some pp0, .var (m1.1 : T_mcase_Codes)⟩]) (Lr := [⟨g1.1, .row 198 (m1.2 : List T_api_Case) g1.2⟩, ⟨none, .row 198 (([] : List T_api_Case) : List T_api_Case) 0⟩, ⟨some p1, .varX (({ ({ (default : T_api_State) with f_ID := 1, f_Header := 1, f_Select := 4, f_Default := lget ([0, 0, 65535, 3] : List Int) k1 } : T_api_State) with f_Cases := [] } : T_api_State) : T_api_State) [(3, slv g1.1 m1.2.length g1.2)]⟩, ⟨none, .row 198 (([] : List T_api_Case) : List T_api_Case) 0⟩]) en49 (C_mcase_Codes_Next hy3) ⟨look_t rfl, look_int 4, trivial⟩ rfl fun q3 => ?_
    obtain ⟨k2, hk2, h⟩ := bind_some h
    refine Sq.v (r_ias (k := k2) Try.underlying64 ty3 (look_t rfl) (look_t rfl) (idx_some hk2)) rfl rfl rfl ?_
    refine Sq.v (r_loadp ty3 (look_t rfl)) rfl rfl rfl ?_
    obtain ⟨z3, hz3, h⟩ := bind_some h
    refine Sq.v ((r_build (b := ({ (default : T_api_State) with f_ID := 2, f_Header := 2, f_Default := lget ([0, 0, 65535, 3] : List Int) k2 } : T_api_State)) rfl bu196 zr196 (.cons le_T_api_State_ID rfl (look_int 2) rfl (.cons le_T_api_State_Header rfl (look_int 2) rfl (.cons le_T_api_State_Default rfl (look_t rfl) rfl (.nil))))).as (some_in hz3)) rfl rfl rfl ?_
    refine Sq.alloc zr196 rfl fun p2 => ?_
    refine Sq.store (i := 0) (Lens.id T_api_State) (v := (z3 : T_api_State)) (b' := (z3 : T_api_State)) ty196 (look_t rfl) (look_t rfl) rfl rfl rfl ?_
    refine Sq.nil ?_
    refine To.next ?_
    refine Wp.seq ?_
    refine Wp.reg ?_
    obtain ⟨z4, hz4, h⟩ := bind_some h
    refine Sq.v ((r_build (b := ({ (default : T_api_State) with f_ID := 3, f_Header := 3, f_Select := 9, f_Default := 0 } : T_api_State)) rfl bu196 zr196 (.cons le_T_api_State_ID rfl (look_int 3) rfl (.cons le_T_api_State_Header rfl (look_int 3) rfl (.cons le_T_api_State_Select rfl (look_int 9) rfl (.cons le_T_api_State_Default rfl (look_int 0) rfl (.nil)))))).as (some_in hz4)) rfl rfl rfl ?_
    refine Sq.alloc zr196 rfl fun p3 => ?_
    refine Sq.store (i := 0) (Lens.id T_api_State) (v := (z4 : T_api_State)) (b' := (z4 : T_api_State)) ty196 (look_t rfl) (look_t rfl) rfl rfl rfl ?_
    refine Sq.nil ?_
    refine To.next ?_
    refine Wp.seq ?_
    refine Wp.seq ?_
    refine Wp.reg ?_
    refine Sq.v (r_move (look_t rfl)) rfl rfl rfl ?_
    refine Sq.bring 2 rfl ?_
    obtain ⟨y4, hy4, h⟩ := bind_some h
    refine Sq.callO (Lin := [⟨some pp0, .var (y3.2 : T_mcase_Codes)⟩]) (Lr := [⟨some p3, .var (z4 : T_api_State)⟩, ⟨some p2, .var (z3 : T_api_State)⟩, ⟨g1.1, .row 198 (m1.2 : List T_api_Case) g1.2⟩, ⟨none, .row 198 (([] : List T_api_Case) : List T_api_Case) 0⟩, ⟨some p1, .varX (({ ({ (default : T_api_State) with f_ID := 1, f_Header := 1, f_Select := 4, f_Default := lget ([0, 0, 65535, 3] : List Int) k1 } : T_api_State) with f_Cases := [] } : T_api_State) : T_api_State) [(3, slv g1.1 m1.2.length g1.2)]⟩, ⟨none, .row 198 (([] : List T_api_Case) : List T_api_Case) 0⟩]) en49 (C_mcase_Codes_Next hy4) ⟨look_t rfl, look_int 3, trivial⟩ rfl fun q4 => ?_
    refine Sq.v (r_eql (look_t rfl) (look_int 1)) rfl rfl rfl ?_
    refine Sq.nil ?_
    refine To.next ?_
    obtain ⟨m2, hm2, h⟩ := bind_some h
    refine Wp.condM (γ := Unit) (fun g2 => [(0, VP.eq (.pointer (some ⟨pp0, 0, none⟩))), (2, VP.of ([] : List T_api_State)), (3, VP.of ([0, 0, 65535, 3] : List Int)), (4, VP.eq (.pointer (some ⟨p1, 0, none⟩))), (5, VP.eq (.pointer (some ⟨p2, 0, none⟩))), (6, VP.eq (.pointer (some ⟨p3, 0, none⟩))), (23, VP.of (y2.1)), (50, VP.of (y4.1 == 1))]) (fun g2 => [⟨some pp0, .var (m2.1 : T_mcase_Codes)⟩, ⟨some p3, .var (m2.2 : T_api_State)⟩, ⟨some p2, .var (z3 : T_api_State)⟩, ⟨g1.1, .row 198 (m1.2 : List T_api_Case) g1.2⟩, ⟨none, .row 198 (([] : List T_api_Case) : List T_api_Case) 0⟩, ⟨some p1, .varX (({ ({ (default : T_api_State) with f_ID := 1, f_Header := 1, f_Select := 4, f_Default := lget ([0, 0, 65535, 3] : List Int) k1 } : T_api_State) with f_Cases := [] } : T_api_State) : T_api_State) [(3, slv g1.1 m1.2.length g1.2)]⟩, ⟨none, .row 198 (([] : List T_api_Case) : List T_api_Case) 0⟩]) (look_t rfl) (fun g2 => ?_) (fun hm hc => ?_) (fun hm hc => ?_)
    · clear hm2
      refine To.next ?_
      refine Wp.seq ?_
      refine Wp.reg ?_
      refine Sq.thaw (β := T_api_State) (γ := T_api_Case) (b' := (({ ({ (default : T_api_State) with f_ID := 1, f_Header := 1, f_Select := 4, f_Default := lget ([0, 0, 65535, 3] : List Int) k1 } : T_api_State) with f_Cases := m1.2 } : T_api_State) : T_api_State)) ((Lens.id T_api_State).comp le_T_api_State_Cases) 5 3 0 rfl rfl rfl rfl rfl rfl ?_
      refine Sq.fromX 5 rfl ?_
      obtain ⟨z5, hz5, h⟩ := bind_some h
      refine Sq.v ((r_load (i := 5) (Lens.id T_api_State) (r := ({ ({ (default : T_api_State) with f_ID := 1, f_Header := 1, f_Select := 4, f_Default := lget ([0, 0, 65535, 3] : List Int) k1 } : T_api_State) with f_Cases := m1.2 } : T_api_State)) ty196 (look_t rfl) rfl rfl rfl).as (some_in hz5)) rfl rfl rfl ?_
      refine Sq.v (r_load (i := 2) (Lens.id T_api_State) (r := z3) ty196 (look_t rfl) rfl rfl rfl) rfl rfl rfl ?_
      refine Sq.v (r_load (i := 1) (Lens.id T_api_State) (r := m2.2) ty196 (look_t rfl) rfl rfl rfl) rfl rfl rfl ?_
      refine Sq.v (r_bsl (r := [z5, z3, m2.2]) Try.underlying26 ty196 zr196 rfl rfl (.cons (by simp) (look_t rfl) (.cons (by simp) (look_t rfl) (.cons (by simp) (look_t rfl) (.nil))))) rfl rfl rfl ?_
      refine Sq.v (r_asg (look_t rfl)) rfl rfl rfl ?_
      refine Sq.nil ?_
      refine To.next ?_
      refine Wp.ret ?_
      refine To.bring 0 rfl ?_
      replace h := some_in h
      subst h
      exact To.endO1 () (.cons_cons _ (List.nil_sublist _)) rfl rfl (rvo_t rfl)
    · have h := cond_t hc hm2
      refine Wp.reg ?_
      refine Sq.v (r_build (b := ({ (default : T_api_Value) with f_Lo := 5#64 } : T_api_Value)) rfl bu47 zr47 (.cons le_T_api_Value_Lo rfl (look_u64 5 rfl) rfl (.nil))) rfl rfl rfl ?_
      refine Sq.v (r_build (b := ({ (default : T_api_Value) with f_Lo := 15#64 } : T_api_Value)) rfl bu47 zr47 (.cons le_T_api_Value_Lo rfl (look_u64 15 rfl) rfl (.nil))) rfl rfl rfl ?_
      refine Sq.v (r_move (look_t rfl)) rfl rfl rfl ?_
      refine Sq.bring 0 rfl ?_
      obtain ⟨y5, hy5, h⟩ := bind_some h
      refine Sq.callO (Lin := [⟨some pp0, .var (y4.2 : T_mcase_Codes)⟩]) (Lr := [⟨some p3, .var (z4 : T_api_State)⟩, ⟨some p2, .var (z3 : T_api_State)⟩, ⟨g1.1, .row 198 (m1.2 : List T_api_Case) g1.2⟩, ⟨none, .row 198 (([] : List T_api_Case) : List T_api_Case) 0⟩, ⟨some p1, .varX (({ ({ (default : T_api_State) with f_ID := 1, f_Header := 1, f_Select := 4, f_Default := lget ([0, 0, 65535, 3] : List Int) k1 } : T_api_State) with f_Cases := [] } : T_api_State) : T_api_State) [(3, slv g1.1 m1.2.length g1.2)]⟩, ⟨none, .row 198 (([] : List T_api_Case) : List T_api_Case) 0⟩]) en49 (C_mcase_Codes_Next hy5) ⟨look_t rfl, look_int 3, trivial⟩ rfl fun q5 => ?_
      refine Sq.v (r_add (look_int 1) (look_t rfl)) rfl rfl rfl ?_
      obtain ⟨z6, hz6, h⟩ := bind_some h
      refine Sq.v ((r_build (b := { f_Value := ({ (default : T_api_Value) with f_Lo := 5#64 } : T_api_Value), f_Mask := ({ (default : T_api_Value) with f_Lo := 15#64 } : T_api_Value), f_Next := w64 (1 + y5.1) : T_api_Case }) rfl bu198 zr198 (.cons le_T_api_Case_Value rfl (look_t rfl) rfl (.cons le_T_api_Case_Mask rfl (look_t rfl) rfl (.cons le_T_api_Case_Next rfl (look_t rfl) rfl (.nil))))).as (some_in hz6)) rfl rfl rfl ?_
      refine Sq.v (r_bsl (r := [z6]) Try.underlying194 ty198 zr198 rfl rfl (.cons (by simp) (look_t rfl) (.nil))) rfl rfl rfl ?_
      refine Sq.v (r_fa fd196_3 (look_t rfl)) rfl rfl rfl ?_
      refine Sq.store (i := 1) ((Lens.id T_api_State).comp le_T_api_State_Cases) (v := ([z6] : List T_api_Case)) (b' := (({ z4 with f_Cases := [z6] } : T_api_State) : T_api_State)) ty194 (look_t rfl) (look_t rfl) rfl rfl rfl ?_
      refine Sq.nil ?_
      replace h := some_in h
      subst h
      exact To.meet 0 rfl (.same rfl (.same rfl (.same rfl (.same rfl (.same rfl (.same rfl (.same rfl (.same rfl .nil)))))))) (hm ())
    · have h := cond_f hc hm2
      refine Wp.skip ?_
      replace h := some_in h
      subst h
      exact To.meet 0 rfl (.same rfl (.same rfl (.same rfl (.same rfl (.same rfl (.same rfl (.same rfl (.same rfl .nil)))))))) (hm ())
  · have h := cond_t hc hm1
    obtain ⟨y6, hy6, h⟩ := bind_some h
    obtain ⟨z7, hz7, h⟩ := bind_some h
    obtain ⟨y7, hy7, h⟩ := bind_some h
    obtain ⟨k3, hk3, h⟩ := bind_some h
    obtain ⟨z8, hz8, h⟩ := bind_some h
    obtain ⟨y8, hy8, h⟩ := bind_some h
    refine Wp.le (E' := [(0, VP.eq (.pointer (some ⟨pp0, 0, none⟩))), (2, VP.of ([] : List T_api_State)), (3, VP.of ([0, 0, 65535, 3] : List Int)), (4, VP.eq (.pointer (some ⟨p1, 0, none⟩))), (7, VP.of ([0, 0, 65535, 3] : List Int)), (8, VP.of ([0, 0, 65535, 3] : List Int)), (9, VP.eq (.pointer (some ⟨pp0, 0, none⟩))), (10, VP.of (y1.1)), (11, VP.ptr (lget ([0, 0, 65535, 3] : List Int) k1)), (12, VP.of (lget ([0, 0, 65535, 3] : List Int) k1)), (13, VP.ofX (({ (default : T_api_State) with f_ID := 1, f_Header := 1, f_Select := 4, f_Default := lget ([0, 0, 65535, 3] : List Int) k1 } : T_api_State)) [(3, slv none ([] : List T_api_Case).length 0)]), (14, VP.of ({ (default : T_api_Value) with f_Lo := 1#64 } : T_api_Value)), (15, VP.of ({ (default : T_api_Value) with f_Lo := 15#64 } : T_api_Value)), (16, VP.of (z1)), (17, VP.of ({ (default : T_api_Value) with f_Lo := 2#64 } : T_api_Value)), (18, VP.of ({ (default : T_api_Value) with f_Lo := 3#64 } : T_api_Value)), (19, VP.of (z2)), (20, VP.eq (slv key1 [z1, z2].length 2)), (21, VP.eq (.pointer (some ⟨p1, 0 + 3, none⟩))), (22, VP.eq (.pointer (some ⟨pp0, 0, none⟩))), (23, VP.of (y2.1))]) (.same rfl (.same rfl (.same rfl (.same rfl (.same rfl (.same rfl (.same rfl (.same rfl (.same rfl (.same rfl (.same rfl (.same rfl (.same rfl (.same rfl (.same rfl (.same rfl (.same rfl (.same rfl (.same rfl (.same rfl (.same rfl .nil))))))))))))))))))))) ?_
    refine Wp.drawD mixed (⟨some 24, [], [], [], fun _ => VP.eq (.pointer (some ⟨p1, 0 + 3, none⟩)), fun _ _ => ⟨none, .dead⟩⟩ :: ⟨some 25, (0 :: []), (3 :: []), [], fun _ => VP.eq (slv key1 [z1, z2].length 2), fun _ _ => ⟨none, .dead⟩⟩ :: ⟨some 26, [], [], [], fun _ => VP.eq (.pointer (some ⟨pp0, 0, none⟩)), fun _ _ => ⟨none, .dead⟩⟩ :: ⟨some 27, (2 :: []), (0 :: []), (0 :: []), fun _ => VP.of (y6.1), fun hd _ => ⟨some pp0, .var (y6.2 : T_mcase_Codes)⟩⟩ :: ⟨some 28, (3 :: []), [], [], fun _ => VP.of (w64 (8 * y6.1)), fun _ _ => ⟨none, .dead⟩⟩ :: ⟨some 29, (4 :: []), [], [], fun _ => VP.of (BitVec.ofInt 64 (w64 (8 * y6.1))), fun _ _ => ⟨none, .dead⟩⟩ :: ⟨some 30, (5 :: []), [], [], fun _ => VP.of (z7), fun _ _ => ⟨none, .dead⟩⟩ :: ⟨some 31, [], [], [], fun _ => VP.of ({ (default : T_api_Value) with f_Lo := 8#64 } : T_api_Value), fun _ _ => ⟨none, .dead⟩⟩ :: ⟨some 32, [], [], [], fun _ => VP.of ([0, 0, 65535, 3] : List Int), fun _ _ => ⟨none, .dead⟩⟩ :: ⟨some 33, [], [], [], fun _ => VP.eq (.pointer (some ⟨pp0, 0, none⟩)), fun _ _ => ⟨none, .dead⟩⟩ :: ⟨some 34, (3 :: 9 :: []), (0 :: []), (0 :: []), fun _ => VP.of (y7.1), fun hd _ => ⟨some pp0, .var (y7.2 : T_mcase_Codes)⟩⟩ :: ⟨some 35, (8 :: 10 :: []), [], [], fun _ => VP.ptr (lget ([0, 0, 65535, 3] : List Int) k3), fun _ _ => ⟨none, .dead⟩⟩ :: ⟨some 36, (11 :: []), [], [], fun _ => VP.of (lget ([0, 0, 65535, 3] : List Int) k3), fun _ _ => ⟨none, .dead⟩⟩ :: ⟨some 37, (6 :: 7 :: 12 :: []), [], [], fun _ => VP.of (z8), fun _ _ => ⟨none, .dead⟩⟩ :: ⟨some 38, (13 :: []), [], [], fun _ => VP.of ([z8]), fun _ _ => ⟨none, .dead⟩⟩ :: ⟨some 39, (1 :: 14 :: []), (1 :: []), (1 :: []), fun hd => VP.eq (slv (hd 15 0) y8.length ((hd 15 1).getD 0)), fun hd _ => ⟨(hd 15 0), .row 198 (y8 : List T_api_Case) ((hd 15 1).getD 0)⟩⟩ :: ⟨some 40, [], [], [], fun _ => VP.eq (.pointer (some ⟨p1, 0 + 3, none⟩)), fun _ _ => ⟨none, .dead⟩⟩ :: ⟨none, (1 :: 15 :: 16 :: []), (3 :: []), (3 :: []), fun _ => VP.any, fun hd _ => ⟨some p1, .varX (({ ({ (default : T_api_State) with f_ID := 1, f_Header := 1, f_Select := 4, f_Default := lget ([0, 0, 65535, 3] : List Int) k1 } : T_api_State) with f_Cases := [] } : T_api_State) : T_api_State) [(3, slv (hd 15 0) y8.length ((hd 15 1).getD 0))]⟩⟩ :: []) ((some 24, [], [], []) :: (some 25, (0 :: []), (3 :: []), []) :: (some 26, [], [], []) :: (some 27, (2 :: []), (0 :: []), (0 :: [])) :: (some 28, (3 :: []), [], []) :: (some 29, (4 :: []), [], []) :: (some 30, (5 :: []), [], []) :: (some 31, [], [], []) :: (some 32, [], [], []) :: (some 33, [], [], []) :: (some 34, (3 :: 9 :: []), (0 :: []), (0 :: [])) :: (some 35, (8 :: 10 :: []), [], []) :: (some 36, (11 :: []), [], []) :: (some 37, (6 :: 7 :: 12 :: []), [], []) :: (some 38, (13 :: []), [], []) :: (some 39, (1 :: 14 :: []), (1 :: []), (1 :: [])) :: (some 40, [], [], []) :: (none, (1 :: 15 :: 16 :: []), (3 :: []), (3 :: [])) :: []) (0 :: 2 :: 3 :: 4 :: 7 :: 8 :: 9 :: 10 :: 11 :: 12 :: 13 :: 14 :: 15 :: 16 :: 17 :: 18 :: 19 :: 20 :: 21 :: 22 :: 23 :: []) rfl rfl (by kernel_rfl) ⟨?_, ?_, ?_, ?_, ?_, ?_, ?_, ?_, ?_, ?_, ?_, ?_, ?_, ?_, ?_, ?_, ?_, ?_, trivial⟩ fun hd => ?_
    · exact hd_v rfl rfl rfl fun hd E' L' hE hL => r_fa fd196_3 (look_t (hE _ _ rfl))
    · exact hd_v rfl rfl rfl fun hd E' L' hE hL => r_loadH (i := 3) (q := 0) (β := T_api_State) (γ := T_api_Case) ty194 (look_t (hE _ _ rfl)) (hL 3 _ rfl rfl) rfl
    · exact hd_v rfl rfl rfl fun hd E' L' hE hL => r_move (look_t (hE _ _ rfl))
    · intro hd E' L' hE hL
      refine Sq.bring 0 (hL 0 _ rfl rfl) ?_
      refine Sq.callO (Lin := [⟨some pp0, .var (y2.2 : T_mcase_Codes)⟩]) (Lr := L'.eraseIdx 0) en49 (C_mcase_Codes_Next hy6) ⟨look_t (hE _ _ rfl), look_int 2, trivial⟩ rfl fun q6 => ?_
      refine Sq.nil ?_
      refine To.back 0 (hL 0 _ rfl rfl) ?_
      exact To.fin (gm []) rfl rfl
    · exact hd_v rfl rfl rfl fun hd E' L' hE hL => r_mul (look_int 8) (look_t (hE _ _ rfl))
    · exact hd_v rfl rfl rfl fun hd E' L' hE hL => r_ci64 Try.underlying3 Try.underlying45 (look_t (hE _ _ rfl))
    · exact hd_v rfl rfl rfl fun hd E' L' hE hL => (r_build (b := ({ (default : T_api_Value) with f_Lo := BitVec.ofInt 64 (w64 (8 * y6.1)) } : T_api_Value)) rfl bu47 zr47 (.cons le_T_api_Value_Lo rfl (look_t (hE _ _ rfl)) rfl (.nil))).as (some_in hz7)
    · exact hd_v rfl rfl rfl fun hd E' L' hE hL => r_build (b := ({ (default : T_api_Value) with f_Lo := 8#64 } : T_api_Value)) rfl bu47 zr47 (.cons le_T_api_Value_Lo rfl (look_u64 8 rfl) rfl (.nil))
    · exact hd_v rfl rfl rfl fun hd E' L' hE hL => r_move (look_t (hE _ _ rfl))
    · exact hd_v rfl rfl rfl fun hd E' L' hE hL => r_move (look_t (hE _ _ rfl))
    · intro hd E' L' hE hL
      refine Sq.bring 0 (hL 0 _ rfl rfl) ?_
      refine Sq.callO (Lin := [⟨some pp0, .var (y6.2 : T_mcase_Codes)⟩]) (Lr := L'.eraseIdx 0) en49 (C_mcase_Codes_Next hy7) ⟨look_t (hE _ _ rfl), look_int 4, trivial⟩ rfl fun q7 => ?_
      refine Sq.nil ?_
      refine To.back 0 (hL 0 _ rfl rfl) ?_
      exact To.fin (gm []) rfl rfl
    · exact hd_v rfl rfl rfl fun hd E' L' hE hL => r_ias (k := k3) Try.underlying64 ty3 (look_t (hE _ _ rfl)) (look_t (hE _ _ rfl)) (idx_some hk3)
    · exact hd_v rfl rfl rfl fun hd E' L' hE hL => r_loadp ty3 (look_t (hE _ _ rfl))
    · exact hd_v rfl rfl rfl fun hd E' L' hE hL => (r_build (b := { f_Value := z7, f_Mask := ({ (default : T_api_Value) with f_Lo := 8#64 } : T_api_Value), f_Next := lget ([0, 0, 65535, 3] : List Int) k3 : T_api_Case }) rfl bu198 zr198 (.cons le_T_api_Case_Value rfl (look_t (hE _ _ rfl)) rfl (.cons le_T_api_Case_Mask rfl (look_t (hE _ _ rfl)) rfl (.cons le_T_api_Case_Next rfl (look_t (hE _ _ rfl)) rfl (.nil))))).as (some_in hz8)
    · exact hd_v rfl rfl rfl fun hd E' L' hE hL => r_bsl (r := [z8]) Try.underlying194 ty198 zr198 rfl rfl (.cons (by simp) (look_t (hE _ _ rfl)) (.nil))
    · intro hd E' L' hE hL
      refine Sq.app (i := 1) Try.underlying194 ty198 zr198 (bytes := 40) (by kernel_rfl) (look_t (hE _ _ rfl)) (hL 1 _ rfl rfl) (look_t (hE _ _ rfl)) hy8 rfl fun key2 cap1 => ?_
      refine Sq.nil ?_
      exact To.fin (gm [key2, some cap1]) rfl rfl
    · exact hd_v rfl rfl rfl fun hd E' L' hE hL => r_fa fd196_3 (look_t (hE _ _ rfl))
    · intro hd E' L' hE hL
      refine Sq.storeH (i := 3) (γ := T_api_Case) (b' := (({ ({ (default : T_api_State) with f_ID := 1, f_Header := 1, f_Select := 4, f_Default := lget ([0, 0, 65535, 3] : List Int) k1 } : T_api_State) with f_Cases := [] } : T_api_State) : T_api_State)) (os' := [(3, slv (hd 15 0) y8.length ((hd 15 1).getD 0))]) ((Lens.id T_api_State).comp le_T_api_State_Cases) ty194 (look_t (hE _ _ rfl)) (look_t (hE _ _ rfl)) slv_one (hL 3 _ rfl rfl) rfl rfl rfl ?_
      refine Sq.nil ?_
      exact To.fin (gm []) rfl rfl
    refine To.eqL (L2 := [⟨some pp0, .var (y7.2 : T_mcase_Codes)⟩, ⟨(hd 15 0), .row 198 (y8 : List T_api_Case) ((hd 15 1).getD 0)⟩, ⟨none, .row 198 (([] : List T_api_Case) : List T_api_Case) 0⟩, ⟨some p1, .varX (({ ({ (default : T_api_State) with f_ID := 1, f_Header := 1, f_Select := 4, f_Default := lget ([0, 0, 65535, 3] : List Int) k1 } : T_api_State) with f_Cases := [] } : T_api_State) : T_api_State) [(3, slv (hd 15 0) y8.length ((hd 15 1).getD 0))]⟩, ⟨none, .row 198 (([] : List T_api_Case) : List T_api_Case) 0⟩]) rfl ?_
    refine To.le (E' := [(0, VP.eq (.pointer (some ⟨pp0, 0, none⟩))), (2, VP.of ([] : List T_api_State)), (3, VP.of ([0, 0, 65535, 3] : List Int)), (4, VP.eq (.pointer (some ⟨p1, 0, none⟩))), (7, VP.of ([0, 0, 65535, 3] : List Int)), (8, VP.of ([0, 0, 65535, 3] : List Int)), (9, VP.eq (.pointer (some ⟨pp0, 0, none⟩))), (10, VP.of (y1.1)), (11, VP.ptr (lget ([0, 0, 65535, 3] : List Int) k1)), (12, VP.of (lget ([0, 0, 65535, 3] : List Int) k1)), (13, VP.ofX (({ (default : T_api_State) with f_ID := 1, f_Header := 1, f_Select := 4, f_Default := lget ([0, 0, 65535, 3] : List Int) k1 } : T_api_State)) [(3, slv none ([] : List T_api_Case).length 0)]), (14, VP.of ({ (default : T_api_Value) with f_Lo := 1#64 } : T_api_Value)), (15, VP.of ({ (default : T_api_Value) with f_Lo := 15#64 } : T_api_Value)), (16, VP.of (z1)), (17, VP.of ({ (default : T_api_Value) with f_Lo := 2#64 } : T_api_Value)), (18, VP.of ({ (default : T_api_Value) with f_Lo := 3#64 } : T_api_Value)), (19, VP.of (z2)), (21, VP.eq (.pointer (some ⟨p1, 0 + 3, none⟩))), (22, VP.eq (.pointer (some ⟨pp0, 0, none⟩))), (23, VP.of (y2.1)), (24, VP.eq (.pointer (some ⟨p1, 0 + 3, none⟩))), (26, VP.eq (.pointer (some ⟨pp0, 0, none⟩))), (27, VP.of (y6.1)), (28, VP.of (w64 (8 * y6.1))), (29, VP.of (BitVec.ofInt 64 (w64 (8 * y6.1)))), (30, VP.of (z7)), (31, VP.of ({ (default : T_api_Value) with f_Lo := 8#64 } : T_api_Value)), (32, VP.of ([0, 0, 65535, 3] : List Int)), (33, VP.eq (.pointer (some ⟨pp0, 0, none⟩))), (34, VP.of (y7.1)), (35, VP.ptr (lget ([0, 0, 65535, 3] : List Int) k3)), (36, VP.of (lget ([0, 0, 65535, 3] : List Int) k3)), (37, VP.of (z8)), (38, VP.of ([z8])), (39, VP.eq (slv (hd 15 0) y8.length ((hd 15 1).getD 0))), (40, VP.eq (.pointer (some ⟨p1, 0 + 3, none⟩)))]) (.same rfl (.same rfl (.same rfl (.same rfl (.same rfl (.same rfl (.same rfl (.same rfl (.same rfl (.same rfl (.same rfl (.same rfl (.same rfl (.same rfl (.same rfl (.same rfl (.same rfl (.same rfl (.same rfl (.same rfl (.same rfl (.same rfl (.same rfl (.same rfl (.same rfl (.same rfl (.same rfl (.same rfl (.same rfl (.same rfl (.same rfl (.same rfl (.same rfl (.same rfl (.same rfl (.same rfl .nil)))))))))))))))))))))))))))))))))))) ?_
    replace h := some_in h
    subst h
    exact To.meet 0 rfl (.same rfl (.same rfl (.same rfl (.same rfl (.same rfl .nil))))) (hm ((hd 15 0), ((hd 15 1).getD 0)))
  · have h := cond_f hc hm1
    refine Wp.skip ?_
    replace h := some_in h
    subst h
    exact To.meet 0 rfl (.same rfl (.same rfl (.same rfl (.same rfl (.same rfl .nil))))) (hm (key1, 2))
end Go.Proofs.Ytodajdohokmjnaa
