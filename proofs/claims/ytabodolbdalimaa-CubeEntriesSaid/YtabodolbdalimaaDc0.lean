/-
  Printed by the decompiler (dec.py) out of the seat's translation. Each function meets its functional program. Conditions: none.
-/
import Derived.Test.YtabodolbdalimaaDl
namespace Go.Proofs.Ytabodolbdalimaa
open Go Gv
set_option linter.unusedVariables false
set_option linter.unusedSimpArgs false
set_option maxRecDepth 100000
set_option maxHeartbeats 2000000 in
theorem C_mcase_New {x0 : List (BitVec 8)} {x1 : Int}  {r : T_mcase_Codes} (h : L_mcase_New x0 x1 = some r) : MeetsO Try.prog 41 [VP.of (x0), VP.of (x1)] [] (δ := Nat) (fun d => VP.eq (.pointer (some ⟨d, 0, none⟩))) (fun d => [⟨some d, .var (r : T_mcase_Codes)⟩]) := by
  unfold L_mcase_New at h
  refine MeetsO.of Try.func41 rfl Try.ntmps41 rfl fun W A => ?_
  refine Wp.seq ?_
  refine Wp.reg ?_
  refine Sq.v (r_asg (look_e (.pointer none))) rfl rfl rfl ?_
  refine Sq.nil ?_
  refine To.next ?_
  refine Wp.seq ?_
  refine Wp.reg ?_
  refine Sq.v (r_move (look_t rfl)) rfl rfl rfl ?_
  refine Sq.v (r_move (look_t rfl)) rfl rfl rfl ?_
  refine Sq.v (r_len Try.underlying74 (look_t rfl)) rfl rfl rfl ?_
  refine Sq.v (r_move (look_t rfl)) rfl rfl rfl ?_
  refine Sq.v (r_min (look_t rfl) (look_t rfl)) rfl rfl rfl ?_
  obtain ⟨y1, hy1, h⟩ := bind_some h
  refine Sq.v (r_slice Try.underlying74 ty5 (look_t rfl) .none (.some (look_t rfl)) hy1) rfl rfl rfl ?_
  refine Sq.v (r_build (b := ({ (default : T_mcase_Codes) with f_l := y1 } : T_mcase_Codes)) rfl bu125 zr125 (.cons le_T_mcase_Codes_l rfl (look_t rfl) rfl (.nil))) rfl rfl rfl ?_
  refine Sq.box (z := (({ (default : T_mcase_Codes) with f_l := y1 } : T_mcase_Codes) : T_mcase_Codes)) (look_t rfl) rfl fun p1 => ?_
  refine Sq.v (r_asg (look_t rfl)) rfl rfl rfl ?_
  refine Sq.nil ?_
  refine To.next ?_
  refine Wp.ret ?_
  refine To.bring 0 rfl ?_
  replace h := some_in h
  subst h
  exact To.endO1 p1 (.cons_cons _ (List.nil_sublist _)) rfl rfl (rvo_t rfl)
set_option maxHeartbeats 2000000 in
theorem C_mcase_Codes_Left {x0 : T_mcase_Codes} {pp0 : Nat} {r : Bool} (h : L_mcase_Codes_Left x0 = some r) : MeetsO Try.prog 99 [VP.eq (.pointer (some ⟨pp0, 0, none⟩))] [⟨some pp0, .var (x0 : T_mcase_Codes)⟩] (δ := Unit) (fun d => VP.of (r)) (fun d => [⟨some pp0, .var (x0 : T_mcase_Codes)⟩]) := by
  unfold L_mcase_Codes_Left at h
  refine MeetsO.of Try.func99 rfl Try.ntmps99 rfl fun W A => ?_
  refine Wp.seq ?_
  refine Wp.reg ?_
  refine Sq.v (r_asg (look_bool false)) rfl rfl rfl ?_
  refine Sq.nil ?_
  refine To.next ?_
  refine Wp.seq ?_
  refine Wp.draw mixed 10 [some 3, some 4, some 5, some 6, some 7, some 8, some 9, some 10, some 11, some 12] [[], [0], [1], [2], [], [4], [5], [6], [7], [3, 8]] [.val (VP.eq (.pointer (some ⟨pp0, 0, none⟩))), .val (VP.eq (.pointer (some ⟨pp0, 0, none⟩))), .val (VP.eq (.pointer (some ⟨pp0, 0 + 1, none⟩))), .val (VP.of (x0.f_at)), .val (VP.eq (.pointer (some ⟨pp0, 0, none⟩))), .val (VP.eq (.pointer (some ⟨pp0, 0, none⟩))), .val (VP.eq (.pointer (some ⟨pp0, 0 + 0, none⟩))), .val (VP.of (x0.f_l)), .val (VP.of (x0.f_l.length : Int)), .val (VP.of (decide (x0.f_at < (x0.f_l.length : Int))))] [false, false, false, false, false, false, false, false, false, false] (by kernel_rfl) rfl rfl rfl (fun ps1 => ⟨fun L' hL => HO.v (r_move (look_t rfl)) rfl, fun L' hL => HO.v (r_nck (look_t rfl)) rfl, fun L' hL => HO.v (r_fa fd125_1 (look_t rfl)) rfl, fun L' hL => HO.v (r_load (i := 0) ((Lens.id T_mcase_Codes).comp le_T_mcase_Codes_at) (r := x0.f_at) ty3 (look_t rfl) (hL _ _ rfl rfl) rfl rfl) rfl, fun L' hL => HO.v (r_move (look_t rfl)) rfl, fun L' hL => HO.v (r_nck (look_t rfl)) rfl, fun L' hL => HO.v (r_fa fd125_0 (look_t rfl)) rfl, fun L' hL => HO.v (r_load (i := 0) ((Lens.id T_mcase_Codes).comp le_T_mcase_Codes_l) (r := x0.f_l) ty74 (look_t rfl) (hL _ _ rfl rfl) rfl rfl) rfl, fun L' hL => HO.v (r_len Try.underlying74 (look_t rfl)) rfl, fun L' hL => HO.v (r_lss (look_t rfl) (look_t rfl)) rfl, trivial⟩) fun ps1 => ?_
  refine Sq.v (r_asg (look_t rfl)) rfl rfl rfl ?_
  refine Sq.nil ?_
  refine To.next ?_
  refine Wp.ret ?_
  refine To.bring 0 rfl ?_
  replace h := some_in h
  subst h
  exact To.endO1 () (.cons_cons _ (List.nil_sublist _)) rfl rfl (rvo_t rfl)
set_option maxHeartbeats 2000000 in
theorem C_mcase_Mod {x0 : Int} {x1 : Int}  {r : Int} (h : L_mcase_Mod x0 x1 = some r) : Meets Try.prog 20 [VP.of (x0), VP.of (x1)] (VP.of (r)) := by
  unfold L_mcase_Mod at h
  refine Meets.of Try.func20 rfl Try.ntmps20 rfl fun W A => ?_
  refine Wp.seq ?_
  refine Wp.reg ?_
  refine Sq.v (r_asg (look_int 0)) rfl rfl rfl ?_
  refine Sq.nil ?_
  refine To.next ?_
  refine Wp.seq ?_
  refine Wp.seq ?_
  refine Wp.reg ?_
  refine Sq.v (r_move (look_t rfl)) rfl rfl rfl ?_
  refine Sq.v (r_lss (look_t rfl) (look_int 1)) rfl rfl rfl ?_
  refine Sq.nil ?_
  refine To.next ?_
  refine Wp.cond (look_t rfl) (fun hc => ?_) (fun hc => ?_)
  · replace h := cond_t hc h
    refine Wp.seq ?_
    refine Wp.reg ?_
    refine Sq.v (r_asg (look_int 0)) rfl rfl rfl ?_
    refine Sq.nil ?_
    refine To.next ?_
    refine Wp.ret ?_
    refine To.ret ?_
    replace h := some_in h
    subst h
    exact To.end1 rfl (rv_t rfl)
  · replace h := cond_f hc h
    refine Wp.skip ?_
    refine To.next ?_
    refine Wp.seq ?_
    refine Wp.reg ?_
    refine Sq.v (r_move (look_t rfl)) rfl rfl rfl ?_
    refine Sq.v (r_move (look_t rfl)) rfl rfl rfl ?_
    obtain ⟨y1, hy1, h⟩ := bind_some h
    refine Sq.v (r_rem (look_t rfl) (look_t rfl) (modM_some hy1)) rfl rfl rfl ?_
    refine Sq.v (r_move (look_t rfl)) rfl rfl rfl ?_
    refine Sq.v (r_add (look_t rfl) (look_t rfl)) rfl rfl rfl ?_
    refine Sq.v (r_move (look_t rfl)) rfl rfl rfl ?_
    obtain ⟨y2, hy2, h⟩ := bind_some h
    refine Sq.v (r_rem (look_t rfl) (look_t rfl) (modM_some hy2)) rfl rfl rfl ?_
    refine Sq.v (r_asg (look_t rfl)) rfl rfl rfl ?_
    refine Sq.nil ?_
    refine To.next ?_
    refine Wp.ret ?_
    replace h := some_in h
    subst h
    exact To.end1 rfl (rv_t rfl)
set_option maxHeartbeats 2000000 in
theorem C_mcase_bitsOf {x0 : T_api_Schema} {x1 : Int}  {r : Int} (h : L_mcase_bitsOf x0 x1 = some r) : Meets Try.prog 100 [VP.of (x0), VP.of (x1)] (VP.of (r)) := by
  unfold L_mcase_bitsOf at h
  refine Meets.of Try.func100 rfl Try.ntmps100 rfl fun W A => ?_
  refine Wp.seq ?_
  refine Wp.reg ?_
  refine Sq.box (z := (x0 : T_api_Schema)) (look_t rfl) rfl fun p1 => ?_
  refine Sq.v (r_asg (look_int 0)) rfl rfl rfl ?_
  refine Sq.nil ?_
  refine To.next ?_
  refine Wp.seq ?_
  refine Wp.seq ?_
  refine Wp.reg ?_
  refine Sq.v (r_fa fd84_0 (look_t rfl)) rfl rfl rfl ?_
  refine Sq.v (r_load (i := 0) ((Lens.id T_api_Schema).comp le_T_api_Schema_Fields) (r := x0.f_Fields) ty75 (look_t rfl) rfl rfl rfl) rfl rfl rfl ?_
  refine Sq.v (r_len Try.underlying75 (look_t rfl)) rfl rfl rfl ?_
  refine Sq.v (r_move (look_int 0)) rfl rfl rfl ?_
  refine Sq.nil ?_
  refine To.next ?_
  refine Wp.block ?_
  obtain ⟨e1, hl, h⟩ := bind_some h
  refine Wp.loopG (σ := Int) (ε := (Int × Bool) ⊕ (Int × Int × Bool × Bool)) (γ := Unit) (δ := Unit) hl (fun s1 g1 => [(0, VP.of (x0)), (1, VP.of (x1)), (2, VP.eq (.pointer (some ⟨p1, 0, none⟩))), (4, VP.of (0 : Int)), (8, VP.of (x0.f_Fields)), (9, VP.of (x0.f_Fields.length : Int)), (10, VP.of (s1))]) (fun s1 g1 => [⟨some p1, .var (x0 : T_api_Schema)⟩]) (fun q1 => Sum.elim (fun q1 => Exit.exit 0) (fun q1 => Exit.ret) q1) (fun q1 g1 => Sum.elim (fun q1 => [(0, VP.of (x0)), (1, VP.of (x1)), (2, VP.eq (.pointer (some ⟨p1, 0, none⟩))), (4, VP.of (0 : Int)), (8, VP.of (x0.f_Fields)), (9, VP.of (x0.f_Fields.length : Int)), (10, VP.of (q1.1)), (11, VP.of (q1.2))]) (fun q1 => [(0, VP.of (x0)), (1, VP.of (x1)), (2, VP.eq (.pointer (some ⟨p1, 0, none⟩))), (4, VP.of (q1.1)), (8, VP.of (x0.f_Fields)), (9, VP.of (x0.f_Fields.length : Int)), (10, VP.of (q1.2.1)), (11, VP.of (q1.2.2.1)), (17, VP.of (q1.2.2.2))]) q1) (fun q1 g1 => Sum.elim (fun q1 => [⟨some p1, .var (x0 : T_api_Schema)⟩]) (fun q1 => [⟨some p1, .var (x0 : T_api_Schema)⟩]) q1) () rfl (.same rfl (.same rfl (.same rfl (.same rfl (.same rfl (.same rfl (.same rfl .nil))))))) (fun s1 r h g1 => ?_) (fun g1 => ?_)
  · clear hl
    refine Wp.seq ?_
    refine Wp.reg ?_
    refine Sq.v (r_lss (look_t rfl) (look_t rfl)) rfl rfl rfl ?_
    refine Sq.nil ?_
    refine To.next ?_
    refine Wp.seq ?_
    refine Wp.cond (look_t rfl) (fun hc => ?_) (fun hc => ?_)
    · replace h := cond_t hc h
      refine Wp.skip ?_
      refine To.next ?_
      refine Wp.seq ?_
      refine Wp.block ?_
      refine Wp.seq ?_
      refine Wp.reg ?_
      obtain ⟨k1, hk1, h⟩ := bind_some h
      refine Sq.v (r_ias (k := k1) Try.underlying75 ty127 (look_t rfl) (look_t rfl) (idx_some hk1)) rfl rfl rfl ?_
      refine Sq.v (r_loadp ty127 (look_t rfl)) rfl rfl rfl ?_
      refine Sq.alloc zr127 rfl fun p2 => ?_
      refine Sq.store (i := 0) (Lens.id T_api_Field) (v := (lget x0.f_Fields k1 : T_api_Field)) (b' := (lget x0.f_Fields k1 : T_api_Field)) ty127 (look_t rfl) (look_t rfl) rfl rfl rfl ?_
      refine Sq.nil ?_
      refine To.next ?_
      refine Wp.seq ?_
      refine Wp.reg ?_
      refine Sq.v (r_fa fd127_0 (look_t rfl)) rfl rfl rfl ?_
      refine Sq.v (r_load (i := 0) ((Lens.id T_api_Field).comp le_T_api_Field_ID) (r := (lget x0.f_Fields k1).f_ID) ty3 (look_t rfl) rfl rfl rfl) rfl rfl rfl ?_
      refine Sq.v (r_move (look_t rfl)) rfl rfl rfl ?_
      refine Sq.v (r_eql (look_t rfl) (look_t rfl)) rfl rfl rfl ?_
      refine Sq.nil ?_
      refine To.next ?_
      refine Wp.cond (look_t rfl) (fun hc => ?_) (fun hc => ?_)
      · replace h := cond_t hc h
        refine Wp.seq ?_
        refine Wp.reg ?_
        refine Sq.v (r_fa fd127_2 (look_t rfl)) rfl rfl rfl ?_
        refine Sq.v (r_load (i := 0) ((Lens.id T_api_Field).comp le_T_api_Field_Bits) (r := (lget x0.f_Fields k1).f_Bits) ty3 (look_t rfl) rfl rfl rfl) rfl rfl rfl ?_
        refine Sq.v (r_asg (look_t rfl)) rfl rfl rfl ?_
        refine Sq.nil ?_
        refine To.next ?_
        refine Wp.ret ?_
        refine To.bret ?_
        refine To.ret ?_
        replace h := some_in h
        subst h
        exact To.leaveG () 1 rfl (by simp) rfl (.same rfl (.same rfl (.same rfl (.same rfl (.same rfl (.same rfl (.same rfl (.same rfl (.same rfl .nil)))))))))
      · replace h := cond_f hc h
        refine Wp.skip ?_
        refine To.bnorm ?_
        refine To.next ?_
        refine Wp.reg ?_
        refine Sq.v (r_add (look_t rfl) (look_int 1)) rfl rfl rfl ?_
        refine Sq.v (r_move (look_t rfl)) rfl rfl rfl ?_
        refine Sq.nil ?_
        replace h := some_in h
        subst h
        exact To.roundG () 1 rfl (.same rfl (.same rfl (.same rfl (.same rfl (.same rfl (.same rfl (.same rfl .nil)))))))
    · replace h := cond_f hc h
      refine Wp.exit ?_
      refine To.exit ?_
      replace h := some_in h
      subst h
      exact To.leaveG () 0 rfl (by simp) rfl (.same rfl (.same rfl (.same rfl (.same rfl (.same rfl (.same rfl (.same rfl (.same rfl .nil))))))))
  · clear hl
    rcases e1 with e1 | e1
    · simp only [Sum.elim_inl] at h
      refine To.bexit ?_
      refine To.next ?_
      refine Wp.seq ?_
      refine Wp.reg ?_
      refine Sq.v (r_asg (look_int 0)) rfl rfl rfl ?_
      refine Sq.nil ?_
      refine To.next ?_
      refine Wp.ret ?_
      replace h := some_in h
      subst h
      exact To.end1 rfl (rv_t rfl)
    · simp only [Sum.elim_inr] at h
      refine To.bret ?_
      refine To.ret ?_
      replace h := some_in h
      subst h
      exact To.end1 rfl (rv_t rfl)
set_option maxHeartbeats 2000000 in
theorem C_mcase_Low {x0 : T_api_Value} {x1 : Int}  {r : T_api_Value} (h : L_mcase_Low x0 x1 = some r) : Meets Try.prog 48 [VP.of (x0), VP.of (x1)] (VP.of (r)) := by
  unfold L_mcase_Low at h
  refine Meets.of Try.func48 rfl Try.ntmps48 rfl fun W A => ?_
  refine Wp.seq ?_
  refine Wp.reg ?_
  refine Sq.box (z := (x0 : T_api_Value)) (look_t rfl) rfl fun p1 => ?_
  refine Sq.alloc zr24 rfl fun p2 => ?_
  refine Sq.nil ?_
  refine To.next ?_
  refine Wp.seq ?_
  refine Wp.block ?_
  refine Wp.seq ?_
  refine Wp.reg ?_
  refine Sq.v (r_move (look_t rfl)) rfl rfl rfl ?_
  refine Sq.v (r_geq (look_t rfl) (look_int 128)) rfl rfl rfl ?_
  refine Sq.v (r_asg (look_t rfl)) rfl rfl rfl ?_
  refine Sq.nil ?_
  refine To.next ?_
  refine Wp.cond (look_t rfl) (fun hc => ?_) (fun hc => ?_)
  · replace h := cond_t hc h
    refine Wp.seq ?_
    refine Wp.reg ?_
    refine Sq.v (r_load (i := 1) (Lens.id T_api_Value) (r := x0) ty24 (look_t rfl) rfl rfl rfl) rfl rfl rfl ?_
    refine Sq.store (i := 0) (Lens.id T_api_Value) (v := (x0 : T_api_Value)) (b' := (x0 : T_api_Value)) ty24 (look_t rfl) (look_t rfl) rfl rfl rfl ?_
    refine Sq.nil ?_
    refine To.next ?_
    refine Wp.ret ?_
    refine To.bret ?_
    refine To.ret ?_
    replace h := some_in h
    subst h
    exact To.end1 rfl (rv_c (i := 0) ty24 rfl rfl)
  · replace h := cond_f hc h
    refine Wp.seq ?_
    refine Wp.reg ?_
    refine Sq.v (r_move (look_t rfl)) rfl rfl rfl ?_
    refine Sq.v (r_geq (look_t rfl) (look_int 64)) rfl rfl rfl ?_
    refine Sq.v (r_asg (look_t rfl)) rfl rfl rfl ?_
    refine Sq.nil ?_
    refine To.next ?_
    refine Wp.cond (look_t rfl) (fun hc => ?_) (fun hc => ?_)
    · replace h := cond_t hc h
      refine Wp.seq ?_
      refine Wp.reg ?_
      refine Sq.v (r_fa fd24_0 (look_t rfl)) rfl rfl rfl ?_
      refine Sq.v (r_load (i := 1) ((Lens.id T_api_Value).comp le_T_api_Value_Hi) (r := x0.f_Hi) ty22 (look_t rfl) rfl rfl rfl) rfl rfl rfl ?_
      refine Sq.v (r_move (look_t rfl)) rfl rfl rfl ?_
      refine Sq.v (r_sub (look_t rfl) (look_int 64)) rfl rfl rfl ?_
      refine Sq.v (r_ci64 Try.underlying3 Try.underlying117 (look_t rfl)) rfl rfl rfl ?_
      refine Sq.v (r_shl64 (look_u64 1 rfl) (look_t rfl)) rfl rfl rfl ?_
      refine Sq.v (r_sub64 (look_t rfl) (look_u64 1 rfl)) rfl rfl rfl ?_
      obtain ⟨z1, hz1, h⟩ := bind_some h
      refine Sq.v ((r_and64 (look_t rfl) (look_t rfl)).as (some_in hz1)) rfl rfl rfl ?_
      refine Sq.v (r_fa fd24_1 (look_t rfl)) rfl rfl rfl ?_
      refine Sq.v (r_load (i := 1) ((Lens.id T_api_Value).comp le_T_api_Value_Lo) (r := x0.f_Lo) ty22 (look_t rfl) rfl rfl rfl) rfl rfl rfl ?_
      refine Sq.v (r_build (b := { f_Hi := z1, f_Lo := x0.f_Lo : T_api_Value }) rfl bu24 zr24 (.cons le_T_api_Value_Hi rfl (look_t rfl) rfl (.cons le_T_api_Value_Lo rfl (look_t rfl) rfl (.nil)))) rfl rfl rfl ?_
      refine Sq.store (i := 0) (Lens.id T_api_Value) (v := ({ f_Hi := z1, f_Lo := x0.f_Lo : T_api_Value } : T_api_Value)) (b' := ({ f_Hi := z1, f_Lo := x0.f_Lo : T_api_Value } : T_api_Value)) ty24 (look_t rfl) (look_t rfl) rfl rfl rfl ?_
      refine Sq.nil ?_
      refine To.next ?_
      refine Wp.ret ?_
      refine To.bret ?_
      refine To.ret ?_
      replace h := some_in h
      subst h
      exact To.end1 rfl (rv_c (i := 0) ty24 rfl rfl)
    · replace h := cond_f hc h
      refine Wp.seq ?_
      refine Wp.reg ?_
      refine Sq.v (r_move (look_t rfl)) rfl rfl rfl ?_
      refine Sq.v (r_leq (look_t rfl) (look_int 0)) rfl rfl rfl ?_
      refine Sq.v (r_asg (look_t rfl)) rfl rfl rfl ?_
      refine Sq.nil ?_
      refine To.next ?_
      refine Wp.cond (look_t rfl) (fun hc => ?_) (fun hc => ?_)
      · replace h := cond_t hc h
        refine Wp.seq ?_
        refine Wp.reg ?_
        refine Sq.v (r_build (b := (default : T_api_Value)) rfl bu24 zr24 (.nil)) rfl rfl rfl ?_
        refine Sq.store (i := 0) (Lens.id T_api_Value) (v := ((default : T_api_Value) : T_api_Value)) (b' := ((default : T_api_Value) : T_api_Value)) ty24 (look_t rfl) (look_t rfl) rfl rfl rfl ?_
        refine Sq.nil ?_
        refine To.next ?_
        refine Wp.ret ?_
        refine To.bret ?_
        refine To.ret ?_
        replace h := some_in h
        subst h
        exact To.end1 rfl (rv_c (i := 0) ty24 rfl rfl)
      · replace h := cond_f hc h
        refine Wp.skip ?_
        refine To.bnorm ?_
        refine To.next ?_
        refine Wp.seq ?_
        refine Wp.reg ?_
        refine Sq.v (r_fa fd24_1 (look_t rfl)) rfl rfl rfl ?_
        refine Sq.v (r_load (i := 1) ((Lens.id T_api_Value).comp le_T_api_Value_Lo) (r := x0.f_Lo) ty22 (look_t rfl) rfl rfl rfl) rfl rfl rfl ?_
        refine Sq.v (r_move (look_t rfl)) rfl rfl rfl ?_
        refine Sq.v (r_ci64 Try.underlying3 Try.underlying117 (look_t rfl)) rfl rfl rfl ?_
        refine Sq.v (r_shl64 (look_u64 1 rfl) (look_t rfl)) rfl rfl rfl ?_
        refine Sq.v (r_sub64 (look_t rfl) (look_u64 1 rfl)) rfl rfl rfl ?_
        refine Sq.v (r_and64 (look_t rfl) (look_t rfl)) rfl rfl rfl ?_
        obtain ⟨z2, hz2, h⟩ := bind_some h
        refine Sq.v ((r_build (b := ({ (default : T_api_Value) with f_Lo := x0.f_Lo &&& (((1#64) <<< (BitVec.ofInt 64 x1).toNat) - (1#64)) } : T_api_Value)) rfl bu24 zr24 (.cons le_T_api_Value_Lo rfl (look_t rfl) rfl (.nil))).as (some_in hz2)) rfl rfl rfl ?_
        refine Sq.store (i := 0) (Lens.id T_api_Value) (v := (z2 : T_api_Value)) (b' := (z2 : T_api_Value)) ty24 (look_t rfl) (look_t rfl) rfl rfl rfl ?_
        refine Sq.nil ?_
        refine To.next ?_
        refine Wp.ret ?_
        replace h := some_in h
        subst h
        exact To.end1 rfl (rv_c (i := 0) ty24 rfl rfl)
set_option maxHeartbeats 2000000 in
theorem C_mcase_mask {x0 : Int} {x1 : Int}  {r : T_api_Value} (h : L_mcase_mask x0 x1 = some r) : Meets Try.prog 101 [VP.of (x0), VP.of (x1)] (VP.of (r)) := by
  unfold L_mcase_mask at h
  refine Meets.of Try.func101 rfl Try.ntmps101 rfl fun W A => ?_
  refine Wp.seq ?_
  refine Wp.reg ?_
  refine Sq.alloc zr24 rfl fun p1 => ?_
  refine Sq.nil ?_
  refine To.next ?_
  refine Wp.seq ?_
  refine Wp.reg ?_
  refine Sq.v (r_move (look_t rfl)) rfl rfl rfl ?_
  refine Sq.v (r_ci64 Try.underlying3 Try.underlying117 (look_t rfl)) rfl rfl rfl ?_
  refine Sq.v (r_shl64 (look_u64 1 rfl) (look_t rfl)) rfl rfl rfl ?_
  refine Sq.v (r_sub64 (look_t rfl) (look_u64 1 rfl)) rfl rfl rfl ?_
  refine Sq.v (r_move (look_t rfl)) rfl rfl rfl ?_
  refine Sq.v (r_move (look_t rfl)) rfl rfl rfl ?_
  refine Sq.v (r_sub (look_t rfl) (look_t rfl)) rfl rfl rfl ?_
  refine Sq.v (r_ci64 Try.underlying3 Try.underlying117 (look_t rfl)) rfl rfl rfl ?_
  refine Sq.v (r_shl64 (look_u64 1 rfl) (look_t rfl)) rfl rfl rfl ?_
  refine Sq.v (r_sub64 (look_t rfl) (look_u64 1 rfl)) rfl rfl rfl ?_
  obtain ⟨z1, hz1, h⟩ := bind_some h
  refine Sq.v ((r_sub64 (look_t rfl) (look_t rfl)).as (some_in hz1)) rfl rfl rfl ?_
  refine Sq.v (r_build (b := ({ (default : T_api_Value) with f_Lo := z1 } : T_api_Value)) rfl bu24 zr24 (.cons le_T_api_Value_Lo rfl (look_t rfl) rfl (.nil))) rfl rfl rfl ?_
  refine Sq.store (i := 0) (Lens.id T_api_Value) (v := (({ (default : T_api_Value) with f_Lo := z1 } : T_api_Value) : T_api_Value)) (b' := (({ (default : T_api_Value) with f_Lo := z1 } : T_api_Value) : T_api_Value)) ty24 (look_t rfl) (look_t rfl) rfl rfl rfl ?_
  refine Sq.nil ?_
  refine To.next ?_
  refine Wp.ret ?_
  replace h := some_in h
  subst h
  exact To.end1 rfl (rv_c (i := 0) ty24 rfl rfl)
set_option maxHeartbeats 2000000 in
theorem C_mcase_ActionIn {x0 : T_api_Schema} {x1 : Int}  {r : T_api_Action} (h : L_mcase_ActionIn x0 x1 = some r) : Meets Try.prog 79 [VP.of (x0), VP.of (x1)] (VP.of (r)) := by
  unfold L_mcase_ActionIn at h
  refine Meets.of Try.func79 rfl Try.ntmps79 rfl fun W A => ?_
  refine Wp.seq ?_
  refine Wp.reg ?_
  refine Sq.box (z := (x0 : T_api_Schema)) (look_t rfl) rfl fun p1 => ?_
  refine Sq.alloc zr146 rfl fun p2 => ?_
  refine Sq.nil ?_
  refine To.next ?_
  refine Wp.seq ?_
  refine Wp.seq ?_
  refine Wp.reg ?_
  refine Sq.v (r_fa fd84_3 (look_t rfl)) rfl rfl rfl ?_
  refine Sq.v (r_load (i := 1) ((Lens.id T_api_Schema).comp le_T_api_Schema_Actions) (r := x0.f_Actions) ty78 (look_t rfl) rfl rfl rfl) rfl rfl rfl ?_
  refine Sq.v (r_len Try.underlying78 (look_t rfl)) rfl rfl rfl ?_
  refine Sq.v (r_move (look_int 0)) rfl rfl rfl ?_
  refine Sq.nil ?_
  refine To.next ?_
  refine Wp.block ?_
  obtain ⟨e1, hl, h⟩ := bind_some h
  refine Wp.loopG (σ := Int) (ε := (Int × Bool) ⊕ (Int × Bool × Bool × T_api_Action)) (γ := Unit) (δ := Unit) hl (fun s1 g1 => [(0, VP.of (x0)), (1, VP.of (x1)), (2, VP.eq (.pointer (some ⟨p1, 0, none⟩))), (4, VP.eq (.pointer (some ⟨p2, 0, none⟩))), (8, VP.of (x0.f_Actions)), (9, VP.of (x0.f_Actions.length : Int)), (10, VP.of (s1))]) (fun s1 g1 => [⟨some p2, .var ((default : T_api_Action) : T_api_Action)⟩, ⟨some p1, .var (x0 : T_api_Schema)⟩]) (fun q1 => Sum.elim (fun q1 => Exit.exit 0) (fun q1 => Exit.ret) q1) (fun q1 g1 => Sum.elim (fun q1 => [(0, VP.of (x0)), (1, VP.of (x1)), (2, VP.eq (.pointer (some ⟨p1, 0, none⟩))), (4, VP.eq (.pointer (some ⟨p2, 0, none⟩))), (8, VP.of (x0.f_Actions)), (9, VP.of (x0.f_Actions.length : Int)), (10, VP.of (q1.1)), (11, VP.of (q1.2))]) (fun q1 => [(0, VP.of (x0)), (1, VP.of (x1)), (2, VP.eq (.pointer (some ⟨p1, 0, none⟩))), (4, VP.eq (.pointer (some ⟨p2, 0, none⟩))), (8, VP.of (x0.f_Actions)), (9, VP.of (x0.f_Actions.length : Int)), (10, VP.of (q1.1)), (11, VP.of (q1.2.1)), (17, VP.of (q1.2.2.1))]) q1) (fun q1 g1 => Sum.elim (fun q1 => [⟨some p2, .var ((default : T_api_Action) : T_api_Action)⟩, ⟨some p1, .var (x0 : T_api_Schema)⟩]) (fun q1 => [⟨some p2, .var (q1.2.2.2 : T_api_Action)⟩, ⟨some p1, .var (x0 : T_api_Schema)⟩]) q1) () rfl (.same rfl (.same rfl (.same rfl (.same rfl (.same rfl (.same rfl (.same rfl .nil))))))) (fun s1 r h g1 => ?_) (fun g1 => ?_)
  · clear hl
    refine Wp.seq ?_
    refine Wp.reg ?_
    refine Sq.v (r_lss (look_t rfl) (look_t rfl)) rfl rfl rfl ?_
    refine Sq.nil ?_
    refine To.next ?_
    refine Wp.seq ?_
    refine Wp.cond (look_t rfl) (fun hc => ?_) (fun hc => ?_)
    · replace h := cond_t hc h
      refine Wp.skip ?_
      refine To.next ?_
      refine Wp.seq ?_
      refine Wp.block ?_
      refine Wp.seq ?_
      refine Wp.reg ?_
      obtain ⟨k1, hk1, h⟩ := bind_some h
      refine Sq.v (r_ias (k := k1) Try.underlying78 ty146 (look_t rfl) (look_t rfl) (idx_some hk1)) rfl rfl rfl ?_
      refine Sq.v (r_loadp ty146 (look_t rfl)) rfl rfl rfl ?_
      refine Sq.alloc zr146 rfl fun p3 => ?_
      refine Sq.store (i := 0) (Lens.id T_api_Action) (v := (lget x0.f_Actions k1 : T_api_Action)) (b' := (lget x0.f_Actions k1 : T_api_Action)) ty146 (look_t rfl) (look_t rfl) rfl rfl rfl ?_
      refine Sq.nil ?_
      refine To.next ?_
      refine Wp.seq ?_
      refine Wp.reg ?_
      refine Sq.v (r_fa fd146_0 (look_t rfl)) rfl rfl rfl ?_
      refine Sq.v (r_load (i := 0) ((Lens.id T_api_Action).comp le_T_api_Action_ID) (r := (lget x0.f_Actions k1).f_ID) ty3 (look_t rfl) rfl rfl rfl) rfl rfl rfl ?_
      refine Sq.v (r_move (look_t rfl)) rfl rfl rfl ?_
      refine Sq.v (r_eql (look_t rfl) (look_t rfl)) rfl rfl rfl ?_
      refine Sq.nil ?_
      refine To.next ?_
      refine Wp.cond (look_t rfl) (fun hc => ?_) (fun hc => ?_)
      · replace h := cond_t hc h
        refine Wp.seq ?_
        refine Wp.reg ?_
        refine Sq.v (r_load (i := 0) (Lens.id T_api_Action) (r := (lget x0.f_Actions k1)) ty146 (look_t rfl) rfl rfl rfl) rfl rfl rfl ?_
        refine Sq.store (i := 1) (Lens.id T_api_Action) (v := ((lget x0.f_Actions k1) : T_api_Action)) (b' := ((lget x0.f_Actions k1) : T_api_Action)) ty146 (look_t rfl) (look_t rfl) rfl rfl rfl ?_
        refine Sq.nil ?_
        refine To.next ?_
        refine Wp.ret ?_
        refine To.bret ?_
        refine To.ret ?_
        replace h := some_in h
        subst h
        exact To.leaveG () 1 rfl (by simp) rfl (.same rfl (.same rfl (.same rfl (.same rfl (.same rfl (.same rfl (.same rfl (.same rfl (.same rfl .nil)))))))))
      · replace h := cond_f hc h
        refine Wp.skip ?_
        refine To.bnorm ?_
        refine To.next ?_
        refine Wp.reg ?_
        refine Sq.v (r_add (look_t rfl) (look_int 1)) rfl rfl rfl ?_
        refine Sq.v (r_move (look_t rfl)) rfl rfl rfl ?_
        refine Sq.nil ?_
        replace h := some_in h
        subst h
        exact To.roundG () 1 rfl (.same rfl (.same rfl (.same rfl (.same rfl (.same rfl (.same rfl (.same rfl .nil)))))))
    · replace h := cond_f hc h
      refine Wp.exit ?_
      refine To.exit ?_
      replace h := some_in h
      subst h
      exact To.leaveG () 0 rfl (by simp) rfl (.same rfl (.same rfl (.same rfl (.same rfl (.same rfl (.same rfl (.same rfl (.same rfl .nil))))))))
  · clear hl
    rcases e1 with e1 | e1
    · simp only [Sum.elim_inl] at h
      refine To.bexit ?_
      refine To.next ?_
      refine Wp.seq ?_
      refine Wp.reg ?_
      refine Sq.v (r_build (b := (default : T_api_Action)) rfl bu146 zr146 (.nil)) rfl rfl rfl ?_
      refine Sq.store (i := 0) (Lens.id T_api_Action) (v := ((default : T_api_Action) : T_api_Action)) (b' := ((default : T_api_Action) : T_api_Action)) ty146 (look_t rfl) (look_t rfl) rfl rfl rfl ?_
      refine Sq.nil ?_
      refine To.next ?_
      refine Wp.ret ?_
      replace h := some_in h
      subst h
      exact To.end1 rfl (rv_c (i := 0) ty146 rfl rfl)
    · simp only [Sum.elim_inr] at h
      refine To.bret ?_
      refine To.ret ?_
      replace h := some_in h
      subst h
      exact To.end1 rfl (rv_c (i := 0) ty146 rfl rfl)
set_option maxHeartbeats 2000000 in
theorem C_check_TableOf_fn1 {x0 : T_api_Table} {x1 : Int}  {r : Bool} (h : L_check_TableOf_fn1 x0 x1 = some r) : Meets Try.prog 103 [VP.of (x0), VP.ptr x1] (VP.of (r)) := by
  unfold L_check_TableOf_fn1 at h
  refine Meets.of Try.func103 rfl Try.ntmps103 rfl fun W A => ?_
  refine Wp.seq ?_
  refine Wp.reg ?_
  refine Sq.box (z := (x0 : T_api_Table)) (look_t rfl) rfl fun p1 => ?_
  refine Sq.v (r_asg (look_bool false)) rfl rfl rfl ?_
  refine Sq.nil ?_
  refine To.next ?_
  refine Wp.seq ?_
  refine Wp.reg ?_
  refine Sq.v (r_fa fd97_0 (look_t rfl)) rfl rfl rfl ?_
  refine Sq.v (r_load (i := 0) ((Lens.id T_api_Table).comp le_T_api_Table_ID) (r := x0.f_ID) ty3 (look_t rfl) rfl rfl rfl) rfl rfl rfl ?_
  refine Sq.v (r_loadp ty3 (look_t rfl)) rfl rfl rfl ?_
  refine Sq.v (r_eql (look_t rfl) (look_t rfl)) rfl rfl rfl ?_
  refine Sq.v (r_asg (look_t rfl)) rfl rfl rfl ?_
  refine Sq.nil ?_
  refine To.next ?_
  refine Wp.ret ?_
  replace h := some_in h
  subst h
  exact To.end1 rfl (rv_t rfl)
set_option maxHeartbeats 2000000 in
theorem C_slices_IndexFunc_api_Table {x0 : List T_api_Table} {x1 : T_api_Table → Option Bool}  {r : Int} (h : L_slices_IndexFunc_api_Table x0 x1 = some r) : Meets Try.prog 102 [VP.of (x0), VP.fn1 Try.prog x1] (VP.of (r)) := by
  unfold L_slices_IndexFunc_api_Table at h
  refine Meets.of Try.func102 rfl Try.ntmps102 rfl fun W A => ?_
  refine Wp.seq ?_
  refine Wp.reg ?_
  refine Sq.v (r_asg (look_int 0)) rfl rfl rfl ?_
  refine Sq.nil ?_
  refine To.next ?_
  refine Wp.seq ?_
  refine Wp.seq ?_
  refine Wp.reg ?_
  refine Sq.v (r_move (look_t rfl)) rfl rfl rfl ?_
  refine Sq.v (r_len Try.underlying79 (look_t rfl)) rfl rfl rfl ?_
  refine Sq.v (r_move (look_int 0)) rfl rfl rfl ?_
  refine Sq.nil ?_
  refine To.next ?_
  refine Wp.block ?_
  obtain ⟨e1, hl, h⟩ := bind_some h
  refine Wp.loopG (σ := Int) (ε := (Int × Bool) ⊕ (Int × Int × Int × Bool × Bool)) (γ := Unit) (δ := Unit) hl (fun s1 g1 => [(0, VP.of (x0)), (1, VP.fn1 Try.prog x1), (4, VP.of (0 : Int)), (7, VP.of (x0.length : Int)), (8, VP.of (s1))]) (fun s1 g1 => []) (fun q1 => Sum.elim (fun q1 => Exit.exit 0) (fun q1 => Exit.ret) q1) (fun q1 g1 => Sum.elim (fun q1 => [(0, VP.of (x0)), (1, VP.fn1 Try.prog x1), (4, VP.of (0 : Int)), (7, VP.of (x0.length : Int)), (8, VP.of (q1.1)), (9, VP.of (q1.2))]) (fun q1 => [(0, VP.of (x0)), (1, VP.fn1 Try.prog x1), (4, VP.of (q1.1)), (5, VP.of (q1.2.1)), (7, VP.of (x0.length : Int)), (8, VP.of (q1.2.2.1)), (9, VP.of (q1.2.2.2.1)), (16, VP.of (q1.2.2.2.2))]) q1) (fun q1 g1 => Sum.elim (fun q1 => []) (fun q1 => []) q1) () rfl (.same rfl (.same rfl (.same rfl (.same rfl (.same rfl .nil))))) (fun s1 r h g1 => ?_) (fun g1 => ?_)
  · clear hl
    refine Wp.seq ?_
    refine Wp.reg ?_
    refine Sq.v (r_lss (look_t rfl) (look_t rfl)) rfl rfl rfl ?_
    refine Sq.nil ?_
    refine To.next ?_
    refine Wp.seq ?_
    refine Wp.cond (look_t rfl) (fun hc => ?_) (fun hc => ?_)
    · replace h := cond_t hc h
      refine Wp.skip ?_
      refine To.next ?_
      refine Wp.seq ?_
      refine Wp.block ?_
      refine Wp.seq ?_
      refine Wp.reg ?_
      refine Sq.v (r_move (look_t rfl)) rfl rfl rfl ?_
      refine Sq.v (r_asg (look_t rfl)) rfl rfl rfl ?_
      refine Sq.nil ?_
      refine To.next ?_
      refine Wp.seq ?_
      refine Wp.reg ?_
      refine Sq.v (r_move (look_t rfl)) rfl rfl rfl ?_
      refine Sq.v (r_move (look_t rfl)) rfl rfl rfl ?_
      refine Sq.v (r_move (look_t rfl)) rfl rfl rfl ?_
      obtain ⟨k1, hk1, h⟩ := bind_some h
      refine Sq.v (r_ias (k := k1) Try.underlying79 ty97 (look_t rfl) (look_t rfl) (idx_some hk1)) rfl rfl rfl ?_
      refine Sq.v (r_loadp ty97 (look_t rfl)) rfl rfl rfl ?_
      obtain ⟨y1, hy1, h⟩ := bind_some h
      refine Sq.v (r_callF1 (look_t rfl) (look_t rfl) hy1) rfl rfl rfl ?_
      refine Sq.nil ?_
      refine To.next ?_
      refine Wp.cond (look_t rfl) (fun hc => ?_) (fun hc => ?_)
      · replace h := cond_t hc h
        refine Wp.seq ?_
        refine Wp.reg ?_
        refine Sq.v (r_move (look_t rfl)) rfl rfl rfl ?_
        refine Sq.v (r_asg (look_t rfl)) rfl rfl rfl ?_
        refine Sq.nil ?_
        refine To.next ?_
        refine Wp.ret ?_
        refine To.bret ?_
        refine To.ret ?_
        replace h := some_in h
        subst h
        exact To.leaveG () 0 rfl (by simp) rfl (.same rfl (.same rfl (.same rfl (.same rfl (.same rfl (.same rfl (.same rfl (.same rfl .nil))))))))
      · replace h := cond_f hc h
        refine Wp.skip ?_
        refine To.bnorm ?_
        refine To.next ?_
        refine Wp.reg ?_
        refine Sq.v (r_add (look_t rfl) (look_int 1)) rfl rfl rfl ?_
        refine Sq.v (r_move (look_t rfl)) rfl rfl rfl ?_
        refine Sq.nil ?_
        replace h := some_in h
        subst h
        exact To.roundG () 0 rfl (.same rfl (.same rfl (.same rfl (.same rfl (.same rfl .nil)))))
    · replace h := cond_f hc h
      refine Wp.exit ?_
      refine To.exit ?_
      replace h := some_in h
      subst h
      exact To.leaveG () 0 rfl (by simp) rfl (.same rfl (.same rfl (.same rfl (.same rfl (.same rfl (.same rfl .nil))))))
  · clear hl
    rcases e1 with e1 | e1
    · simp only [Sum.elim_inl] at h
      refine To.bexit ?_
      refine To.next ?_
      refine Wp.seq ?_
      refine Wp.reg ?_
      refine Sq.v (r_asg (look_int (-1))) rfl rfl rfl ?_
      refine Sq.nil ?_
      refine To.next ?_
      refine Wp.ret ?_
      replace h := some_in h
      subst h
      exact To.end1 rfl (rv_t rfl)
    · simp only [Sum.elim_inr] at h
      refine To.bret ?_
      refine To.ret ?_
      replace h := some_in h
      subst h
      exact To.end1 rfl (rv_t rfl)
set_option maxHeartbeats 2000000 in
theorem C_check_FieldOf_fn1 {x0 : T_api_Field} {x1 : Int}  {r : Bool} (h : L_check_FieldOf_fn1 x0 x1 = some r) : Meets Try.prog 105 [VP.of (x0), VP.ptr x1] (VP.of (r)) := by
  unfold L_check_FieldOf_fn1 at h
  refine Meets.of Try.func105 rfl Try.ntmps105 rfl fun W A => ?_
  refine Wp.seq ?_
  refine Wp.reg ?_
  refine Sq.box (z := (x0 : T_api_Field)) (look_t rfl) rfl fun p1 => ?_
  refine Sq.v (r_asg (look_bool false)) rfl rfl rfl ?_
  refine Sq.nil ?_
  refine To.next ?_
  refine Wp.seq ?_
  refine Wp.reg ?_
  refine Sq.v (r_fa fd127_0 (look_t rfl)) rfl rfl rfl ?_
  refine Sq.v (r_load (i := 0) ((Lens.id T_api_Field).comp le_T_api_Field_ID) (r := x0.f_ID) ty3 (look_t rfl) rfl rfl rfl) rfl rfl rfl ?_
  refine Sq.v (r_loadp ty3 (look_t rfl)) rfl rfl rfl ?_
  refine Sq.v (r_eql (look_t rfl) (look_t rfl)) rfl rfl rfl ?_
  refine Sq.v (r_asg (look_t rfl)) rfl rfl rfl ?_
  refine Sq.nil ?_
  refine To.next ?_
  refine Wp.ret ?_
  replace h := some_in h
  subst h
  exact To.end1 rfl (rv_t rfl)
set_option maxHeartbeats 2000000 in
theorem C_slices_IndexFunc_api_Field {x0 : List T_api_Field} {x1 : T_api_Field → Option Bool}  {r : Int} (h : L_slices_IndexFunc_api_Field x0 x1 = some r) : Meets Try.prog 104 [VP.of (x0), VP.fn1 Try.prog x1] (VP.of (r)) := by
  unfold L_slices_IndexFunc_api_Field at h
  refine Meets.of Try.func104 rfl Try.ntmps104 rfl fun W A => ?_
  refine Wp.seq ?_
  refine Wp.reg ?_
  refine Sq.v (r_asg (look_int 0)) rfl rfl rfl ?_
  refine Sq.nil ?_
  refine To.next ?_
  refine Wp.seq ?_
  refine Wp.seq ?_
  refine Wp.reg ?_
  refine Sq.v (r_move (look_t rfl)) rfl rfl rfl ?_
  refine Sq.v (r_len Try.underlying75 (look_t rfl)) rfl rfl rfl ?_
  refine Sq.v (r_move (look_int 0)) rfl rfl rfl ?_
  refine Sq.nil ?_
  refine To.next ?_
  refine Wp.block ?_
  obtain ⟨e1, hl, h⟩ := bind_some h
  refine Wp.loopG (σ := Int) (ε := (Int × Bool) ⊕ (Int × Int × Int × Bool × Bool)) (γ := Unit) (δ := Unit) hl (fun s1 g1 => [(0, VP.of (x0)), (1, VP.fn1 Try.prog x1), (4, VP.of (0 : Int)), (7, VP.of (x0.length : Int)), (8, VP.of (s1))]) (fun s1 g1 => []) (fun q1 => Sum.elim (fun q1 => Exit.exit 0) (fun q1 => Exit.ret) q1) (fun q1 g1 => Sum.elim (fun q1 => [(0, VP.of (x0)), (1, VP.fn1 Try.prog x1), (4, VP.of (0 : Int)), (7, VP.of (x0.length : Int)), (8, VP.of (q1.1)), (9, VP.of (q1.2))]) (fun q1 => [(0, VP.of (x0)), (1, VP.fn1 Try.prog x1), (4, VP.of (q1.1)), (5, VP.of (q1.2.1)), (7, VP.of (x0.length : Int)), (8, VP.of (q1.2.2.1)), (9, VP.of (q1.2.2.2.1)), (16, VP.of (q1.2.2.2.2))]) q1) (fun q1 g1 => Sum.elim (fun q1 => []) (fun q1 => []) q1) () rfl (.same rfl (.same rfl (.same rfl (.same rfl (.same rfl .nil))))) (fun s1 r h g1 => ?_) (fun g1 => ?_)
  · clear hl
    refine Wp.seq ?_
    refine Wp.reg ?_
    refine Sq.v (r_lss (look_t rfl) (look_t rfl)) rfl rfl rfl ?_
    refine Sq.nil ?_
    refine To.next ?_
    refine Wp.seq ?_
    refine Wp.cond (look_t rfl) (fun hc => ?_) (fun hc => ?_)
    · replace h := cond_t hc h
      refine Wp.skip ?_
      refine To.next ?_
      refine Wp.seq ?_
      refine Wp.block ?_
      refine Wp.seq ?_
      refine Wp.reg ?_
      refine Sq.v (r_move (look_t rfl)) rfl rfl rfl ?_
      refine Sq.v (r_asg (look_t rfl)) rfl rfl rfl ?_
      refine Sq.nil ?_
      refine To.next ?_
      refine Wp.seq ?_
      refine Wp.reg ?_
      refine Sq.v (r_move (look_t rfl)) rfl rfl rfl ?_
      refine Sq.v (r_move (look_t rfl)) rfl rfl rfl ?_
      refine Sq.v (r_move (look_t rfl)) rfl rfl rfl ?_
      obtain ⟨k1, hk1, h⟩ := bind_some h
      refine Sq.v (r_ias (k := k1) Try.underlying75 ty127 (look_t rfl) (look_t rfl) (idx_some hk1)) rfl rfl rfl ?_
      refine Sq.v (r_loadp ty127 (look_t rfl)) rfl rfl rfl ?_
      obtain ⟨y1, hy1, h⟩ := bind_some h
      refine Sq.v (r_callF1 (look_t rfl) (look_t rfl) hy1) rfl rfl rfl ?_
      refine Sq.nil ?_
      refine To.next ?_
      refine Wp.cond (look_t rfl) (fun hc => ?_) (fun hc => ?_)
      · replace h := cond_t hc h
        refine Wp.seq ?_
        refine Wp.reg ?_
        refine Sq.v (r_move (look_t rfl)) rfl rfl rfl ?_
        refine Sq.v (r_asg (look_t rfl)) rfl rfl rfl ?_
        refine Sq.nil ?_
        refine To.next ?_
        refine Wp.ret ?_
        refine To.bret ?_
        refine To.ret ?_
        replace h := some_in h
        subst h
        exact To.leaveG () 0 rfl (by simp) rfl (.same rfl (.same rfl (.same rfl (.same rfl (.same rfl (.same rfl (.same rfl (.same rfl .nil))))))))
      · replace h := cond_f hc h
        refine Wp.skip ?_
        refine To.bnorm ?_
        refine To.next ?_
        refine Wp.reg ?_
        refine Sq.v (r_add (look_t rfl) (look_int 1)) rfl rfl rfl ?_
        refine Sq.v (r_move (look_t rfl)) rfl rfl rfl ?_
        refine Sq.nil ?_
        replace h := some_in h
        subst h
        exact To.roundG () 0 rfl (.same rfl (.same rfl (.same rfl (.same rfl (.same rfl .nil)))))
    · replace h := cond_f hc h
      refine Wp.exit ?_
      refine To.exit ?_
      replace h := some_in h
      subst h
      exact To.leaveG () 0 rfl (by simp) rfl (.same rfl (.same rfl (.same rfl (.same rfl (.same rfl (.same rfl .nil))))))
  · clear hl
    rcases e1 with e1 | e1
    · simp only [Sum.elim_inl] at h
      refine To.bexit ?_
      refine To.next ?_
      refine Wp.seq ?_
      refine Wp.reg ?_
      refine Sq.v (r_asg (look_int (-1))) rfl rfl rfl ?_
      refine Sq.nil ?_
      refine To.next ?_
      refine Wp.ret ?_
      replace h := some_in h
      subst h
      exact To.end1 rfl (rv_t rfl)
    · simp only [Sum.elim_inr] at h
      refine To.bret ?_
      refine To.ret ?_
      replace h := some_in h
      subst h
      exact To.end1 rfl (rv_t rfl)
set_option maxHeartbeats 2000000 in
theorem C_value_within {x0 : Int}  {r : Int} (h : L_value_within x0 = some r) : Meets Try.prog 115 [VP.of (x0)] (VP.of (r)) := by
  unfold L_value_within at h
  refine Meets.of Try.func115 rfl Try.ntmps115 rfl fun W A => ?_
  refine Wp.seq ?_
  refine Wp.reg ?_
  refine Sq.v (r_asg (look_int 0)) rfl rfl rfl ?_
  refine Sq.nil ?_
  refine To.next ?_
  refine Wp.seq ?_
  refine Wp.reg ?_
  refine Sq.v (r_move (look_t rfl)) rfl rfl rfl ?_
  refine Sq.v (r_max (look_int 0) (look_t rfl)) rfl rfl rfl ?_
  refine Sq.v (r_min (look_t rfl) (look_int 128)) rfl rfl rfl ?_
  refine Sq.v (r_asg (look_t rfl)) rfl rfl rfl ?_
  refine Sq.nil ?_
  refine To.next ?_
  refine Wp.ret ?_
  replace h := some_in h
  subst h
  exact To.end1 rfl (rv_t rfl)
end Go.Proofs.Ytabodolbdalimaa
