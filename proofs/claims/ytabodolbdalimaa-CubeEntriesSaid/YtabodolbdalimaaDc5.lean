/-
  Printed by the decompiler (dec.py) out of the seat's translation. Each function meets its functional program. Conditions: none.
-/
import Derived.Test.YtabodolbdalimaaDc0
import Derived.Test.YtabodolbdalimaaDc1
import Derived.Test.YtabodolbdalimaaDc2
import Derived.Test.YtabodolbdalimaaDc3
namespace Go.Proofs.Ytabodolbdalimaa
open Go Gv
set_option linter.unusedVariables false
set_option linter.unusedSimpArgs false
set_option maxRecDepth 100000
set_option maxHeartbeats 2000000 in
theorem C_value_Left {x0 : T_api_Value} {x1 : Int}  {r : T_api_Value} (h : L_value_Left x0 x1 = some r) : Meets Try.prog 60 [VP.of (x0), VP.of (x1)] (VP.of (r)) := by
  unfold L_value_Left at h
  refine Meets.of Try.func60 rfl Try.ntmps60 rfl fun W A => ?_
  refine Wp.seq ?_
  refine Wp.reg ?_
  refine Sq.box (z := (x0 : T_api_Value)) (look_t rfl) rfl fun p1 => ?_
  refine Sq.alloc zr24 rfl fun p2 => ?_
  refine Sq.nil ?_
  refine To.next ?_
  refine Wp.seq ?_
  refine Wp.block ?_
  refine Wp.seq ?_
  refine Wp.reg ?_
  refine Sq.v (r_move (look_t rfl)) rfl rfl rfl ?_
  refine Sq.v (r_leq (look_t rfl) (look_int 0)) rfl rfl rfl ?_
  refine Sq.v (r_asg (look_t rfl)) rfl rfl rfl ?_
  refine Sq.nil ?_
  refine To.next ?_
  refine Wp.cond (look_t rfl) (fun hc => ?_) (fun hc => ?_)
  · replace h := cond_t hc h
    refine Wp.seq ?_
    refine Wp.reg ?_
    refine Sq.v (r_load (i := 1) (Lens.id T_api_Value) (r := x0) ty24 (look_t rfl) rfl rfl rfl) rfl rfl rfl ?_
    refine Sq.store (i := 0) (Lens.id T_api_Value) (v := (x0 : T_api_Value)) (b' := (x0 : T_api_Value)) ty24 (look_t rfl) (look_t rfl) rfl rfl rfl ?_
    refine Sq.nil ?_
    refine To.next ?_
    refine Wp.ret ?_
    refine To.bret ?_
    refine To.ret ?_
    replace h := some_in h
    subst h
    exact To.end1 rfl (rv_c (i := 0) ty24 rfl rfl)
  · replace h := cond_f hc h
    refine Wp.seq ?_
    refine Wp.reg ?_
    refine Sq.v (r_move (look_t rfl)) rfl rfl rfl ?_
    refine Sq.v (r_geq (look_t rfl) (look_int 64)) rfl rfl rfl ?_
    refine Sq.v (r_asg (look_t rfl)) rfl rfl rfl ?_
    refine Sq.nil ?_
    refine To.next ?_
    refine Wp.cond (look_t rfl) (fun hc => ?_) (fun hc => ?_)
    · replace h := cond_t hc h
      refine Wp.seq ?_
      refine Wp.reg ?_
      refine Sq.v (r_fa fd24_1 (look_t rfl)) rfl rfl rfl ?_
      refine Sq.v (r_load (i := 1) ((Lens.id T_api_Value).comp le_T_api_Value_Lo) (r := x0.f_Lo) ty22 (look_t rfl) rfl rfl rfl) rfl rfl rfl ?_
      refine Sq.v (r_move (look_t rfl)) rfl rfl rfl ?_
      refine Sq.v (r_sub (look_t rfl) (look_int 64)) rfl rfl rfl ?_
      refine Sq.v (r_ci64 Try.underlying3 Try.underlying117 (look_t rfl)) rfl rfl rfl ?_
      refine Sq.v (r_shl64 (look_t rfl) (look_t rfl)) rfl rfl rfl ?_
      obtain ⟨z1, hz1, h⟩ := bind_some h
      refine Sq.v ((r_build (b := ({ (default : T_api_Value) with f_Hi := x0.f_Lo <<< (BitVec.ofInt 64 (w64 (x1 - 64))).toNat } : T_api_Value)) rfl bu24 zr24 (.cons le_T_api_Value_Hi rfl (look_t rfl) rfl (.nil))).as (some_in hz1)) rfl rfl rfl ?_
      refine Sq.store (i := 0) (Lens.id T_api_Value) (v := (z1 : T_api_Value)) (b' := (z1 : T_api_Value)) ty24 (look_t rfl) (look_t rfl) rfl rfl rfl ?_
      refine Sq.nil ?_
      refine To.next ?_
      refine Wp.ret ?_
      refine To.bret ?_
      refine To.ret ?_
      replace h := some_in h
      subst h
      exact To.end1 rfl (rv_c (i := 0) ty24 rfl rfl)
    · replace h := cond_f hc h
      refine Wp.skip ?_
      refine To.bnorm ?_
      refine To.next ?_
      refine Wp.seq ?_
      refine Wp.reg ?_
      refine Sq.v (r_fa fd24_0 (look_t rfl)) rfl rfl rfl ?_
      refine Sq.v (r_load (i := 1) ((Lens.id T_api_Value).comp le_T_api_Value_Hi) (r := x0.f_Hi) ty22 (look_t rfl) rfl rfl rfl) rfl rfl rfl ?_
      refine Sq.v (r_move (look_t rfl)) rfl rfl rfl ?_
      refine Sq.v (r_ci64 Try.underlying3 Try.underlying117 (look_t rfl)) rfl rfl rfl ?_
      refine Sq.v (r_shl64 (look_t rfl) (look_t rfl)) rfl rfl rfl ?_
      refine Sq.v (r_fa fd24_1 (look_t rfl)) rfl rfl rfl ?_
      refine Sq.v (r_load (i := 1) ((Lens.id T_api_Value).comp le_T_api_Value_Lo) (r := x0.f_Lo) ty22 (look_t rfl) rfl rfl rfl) rfl rfl rfl ?_
      refine Sq.v (r_move (look_t rfl)) rfl rfl rfl ?_
      refine Sq.v (r_sub (look_int 64) (look_t rfl)) rfl rfl rfl ?_
      refine Sq.v (r_ci64 Try.underlying3 Try.underlying117 (look_t rfl)) rfl rfl rfl ?_
      refine Sq.v (r_shr64 (look_t rfl) (look_t rfl)) rfl rfl rfl ?_
      obtain ⟨z2, hz2, h⟩ := bind_some h
      refine Sq.v ((r_or64 (look_t rfl) (look_t rfl)).as (some_in hz2)) rfl rfl rfl ?_
      refine Sq.v (r_fa fd24_1 (look_t rfl)) rfl rfl rfl ?_
      refine Sq.v (r_load (i := 1) ((Lens.id T_api_Value).comp le_T_api_Value_Lo) (r := x0.f_Lo) ty22 (look_t rfl) rfl rfl rfl) rfl rfl rfl ?_
      refine Sq.v (r_move (look_t rfl)) rfl rfl rfl ?_
      refine Sq.v (r_ci64 Try.underlying3 Try.underlying117 (look_t rfl)) rfl rfl rfl ?_
      refine Sq.v (r_shl64 (look_t rfl) (look_t rfl)) rfl rfl rfl ?_
      obtain ⟨z3, hz3, h⟩ := bind_some h
      refine Sq.v ((r_build (b := { f_Hi := z2, f_Lo := x0.f_Lo <<< (BitVec.ofInt 64 x1).toNat : T_api_Value }) rfl bu24 zr24 (.cons le_T_api_Value_Hi rfl (look_t rfl) rfl (.cons le_T_api_Value_Lo rfl (look_t rfl) rfl (.nil)))).as (some_in hz3)) rfl rfl rfl ?_
      refine Sq.store (i := 0) (Lens.id T_api_Value) (v := (z3 : T_api_Value)) (b' := (z3 : T_api_Value)) ty24 (look_t rfl) (look_t rfl) rfl rfl rfl ?_
      refine Sq.nil ?_
      refine To.next ?_
      refine Wp.ret ?_
      replace h := some_in h
      subst h
      exact To.end1 rfl (rv_c (i := 0) ty24 rfl rfl)
set_option maxHeartbeats 2000000 in
theorem C_math_bits_OnesCount64 {x0 : BitVec 64}  {r : Int} (h : L_math_bits_OnesCount64 x0 = some r) : Meets Try.prog 66 [VP.of (x0)] (VP.of (r)) := by
  unfold L_math_bits_OnesCount64 at h
  refine Meets.of Try.func66 rfl Try.ntmps66 rfl fun W A => ?_
  refine Wp.seq ?_
  refine Wp.reg ?_
  refine Sq.v (r_asg (look_int 0)) rfl rfl rfl ?_
  refine Sq.nil ?_
  refine To.next ?_
  refine Wp.seq ?_
  refine Wp.reg ?_
  refine Sq.v (r_move (look_t rfl)) rfl rfl rfl ?_
  refine Sq.v (r_shr64 (look_t rfl) (look_u64 1 rfl)) rfl rfl rfl ?_
  refine Sq.v (r_and64 (look_t rfl) (look_u64 6148914691236517205 rfl)) rfl rfl rfl ?_
  refine Sq.v (r_move (look_t rfl)) rfl rfl rfl ?_
  refine Sq.v (r_and64 (look_t rfl) (look_u64 6148914691236517205 rfl)) rfl rfl rfl ?_
  obtain ⟨z1, hz1, h⟩ := bind_some h
  refine Sq.v ((r_add64 (look_t rfl) (look_t rfl)).as (some_in hz1)) rfl rfl rfl ?_
  refine Sq.v (r_asg (look_t rfl)) rfl rfl rfl ?_
  refine Sq.nil ?_
  refine To.next ?_
  refine Wp.seq ?_
  refine Wp.reg ?_
  refine Sq.v (r_move (look_t rfl)) rfl rfl rfl ?_
  refine Sq.v (r_shr64 (look_t rfl) (look_u64 2 rfl)) rfl rfl rfl ?_
  refine Sq.v (r_and64 (look_t rfl) (look_u64 3689348814741910323 rfl)) rfl rfl rfl ?_
  refine Sq.v (r_move (look_t rfl)) rfl rfl rfl ?_
  refine Sq.v (r_and64 (look_t rfl) (look_u64 3689348814741910323 rfl)) rfl rfl rfl ?_
  obtain ⟨z2, hz2, h⟩ := bind_some h
  refine Sq.v ((r_add64 (look_t rfl) (look_t rfl)).as (some_in hz2)) rfl rfl rfl ?_
  refine Sq.v (r_asg (look_t rfl)) rfl rfl rfl ?_
  refine Sq.nil ?_
  refine To.next ?_
  refine Wp.seq ?_
  refine Wp.reg ?_
  refine Sq.v (r_move (look_t rfl)) rfl rfl rfl ?_
  refine Sq.v (r_shr64 (look_t rfl) (look_u64 4 rfl)) rfl rfl rfl ?_
  refine Sq.v (r_move (look_t rfl)) rfl rfl rfl ?_
  refine Sq.v (r_add64 (look_t rfl) (look_t rfl)) rfl rfl rfl ?_
  refine Sq.v (r_and64 (look_t rfl) (look_u64 1085102592571150095 rfl)) rfl rfl rfl ?_
  refine Sq.v (r_asg (look_t rfl)) rfl rfl rfl ?_
  refine Sq.nil ?_
  refine To.next ?_
  refine Wp.seq ?_
  refine Wp.reg ?_
  refine Sq.v (r_move (look_t rfl)) rfl rfl rfl ?_
  refine Sq.v (r_move (look_t rfl)) rfl rfl rfl ?_
  obtain ⟨z3, hz3, h⟩ := bind_some h
  refine Sq.v ((r_shr64 (look_t rfl) (look_u64 8 rfl)).as (some_in hz3)) rfl rfl rfl ?_
  refine Sq.v (r_add64 (look_t rfl) (look_t rfl)) rfl rfl rfl ?_
  refine Sq.v (r_asg (look_t rfl)) rfl rfl rfl ?_
  refine Sq.nil ?_
  refine To.next ?_
  refine Wp.seq ?_
  refine Wp.reg ?_
  refine Sq.v (r_move (look_t rfl)) rfl rfl rfl ?_
  refine Sq.v (r_move (look_t rfl)) rfl rfl rfl ?_
  obtain ⟨z4, hz4, h⟩ := bind_some h
  refine Sq.v ((r_shr64 (look_t rfl) (look_u64 16 rfl)).as (some_in hz4)) rfl rfl rfl ?_
  obtain ⟨z5, hz5, h⟩ := bind_some h
  refine Sq.v ((r_add64 (look_t rfl) (look_t rfl)).as (some_in hz5)) rfl rfl rfl ?_
  refine Sq.v (r_asg (look_t rfl)) rfl rfl rfl ?_
  refine Sq.nil ?_
  refine To.next ?_
  refine Wp.seq ?_
  refine Wp.reg ?_
  refine Sq.v (r_move (look_t rfl)) rfl rfl rfl ?_
  refine Sq.v (r_move (look_t rfl)) rfl rfl rfl ?_
  refine Sq.v (r_shr64 (look_t rfl) (look_u64 32 rfl)) rfl rfl rfl ?_
  refine Sq.v (r_add64 (look_t rfl) (look_t rfl)) rfl rfl rfl ?_
  refine Sq.v (r_asg (look_t rfl)) rfl rfl rfl ?_
  refine Sq.nil ?_
  refine To.next ?_
  refine Wp.seq ?_
  refine Wp.reg ?_
  refine Sq.v (r_move (look_t rfl)) rfl rfl rfl ?_
  refine Sq.v (r_c64i Try.underlying22 Try.underlying3 (look_t rfl)) rfl rfl rfl ?_
  refine Sq.v (r_iand (look_t rfl) (look_int 127)) rfl rfl rfl ?_
  refine Sq.v (r_asg (look_t rfl)) rfl rfl rfl ?_
  refine Sq.nil ?_
  refine To.next ?_
  refine Wp.ret ?_
  replace h := some_in h
  subst h
  exact To.end1 rfl (rv_t rfl)
set_option maxHeartbeats 2000000 in
theorem C_mcase_Codes_Next {x0 : T_mcase_Codes} {x1 : Int} {pp0 : Nat} {r : Int × T_mcase_Codes} (h : L_mcase_Codes_Next x0 x1 = some r) : MeetsO Try.prog 72 [VP.eq (.pointer (some ⟨pp0, 0, none⟩)), VP.of (x1)] [⟨some pp0, .var (x0 : T_mcase_Codes)⟩] (δ := Unit) (fun d => VP.of (r.1)) (fun d => [⟨some pp0, .var (r.2 : T_mcase_Codes)⟩]) := by
  unfold L_mcase_Codes_Next at h
  refine MeetsO.of Try.func72 rfl Try.ntmps72 rfl fun W A => ?_
  refine Wp.seq ?_
  refine Wp.reg ?_
  refine Sq.v (r_asg (look_int 0)) rfl rfl rfl ?_
  refine Sq.nil ?_
  refine To.next ?_
  refine Wp.seq ?_
  refine Wp.seq ?_
  refine Wp.reg ?_
  refine Sq.v (r_move (look_t rfl)) rfl rfl rfl ?_
  refine Sq.bring 0 rfl ?_
  obtain ⟨y1, hy1, h⟩ := bind_some h
  refine Sq.callO (Lin := [⟨some pp0, .var (x0 : T_mcase_Codes)⟩]) (Lr := []) en99 (C_mcase_Codes_Left hy1) ⟨look_t rfl, trivial⟩ rfl fun q1 => ?_
  refine Sq.v (r_not (look_t rfl)) rfl rfl rfl ?_
  refine Sq.v (r_move (look_t rfl)) rfl rfl rfl ?_
  refine Sq.g (fun hb => r_move (look_t rfl)) rfl rfl rfl rfl rfl ?_
  refine Sq.g (fun hb => r_lss (look_tc rfl hb) (look_int 1)) rfl rfl rfl rfl rfl ?_
  refine Sq.v (r_or (look_t rfl) (look_t rfl) (fun h => h)) rfl rfl rfl ?_
  refine Sq.nil ?_
  refine To.next ?_
  refine Wp.cond (look_t rfl) (fun hc => ?_) (fun hc => ?_)
  · replace h := cond_t hc h
    refine Wp.seq ?_
    refine Wp.reg ?_
    refine Sq.v (r_asg (look_int 0)) rfl rfl rfl ?_
    refine Sq.nil ?_
    refine To.next ?_
    refine Wp.ret ?_
    refine To.ret ?_
    refine To.bring 0 rfl ?_
    replace h := some_in h
    subst h
    exact To.endO1 () (.cons_cons _ (List.nil_sublist _)) rfl rfl (rvo_t rfl)
  · replace h := cond_f hc h
    refine Wp.skip ?_
    refine To.next ?_
    refine Wp.seq ?_
    refine Wp.reg ?_
    refine Sq.v (r_move (look_t rfl)) rfl rfl rfl ?_
    refine Sq.v (r_nck (look_t rfl)) rfl rfl rfl ?_
    refine Sq.v (r_fa fd125_1 (look_t rfl)) rfl rfl rfl ?_
    refine Sq.v (r_load (i := 0) ((Lens.id T_mcase_Codes).comp le_T_mcase_Codes_at) (r := x0.f_at) ty3 (look_t rfl) rfl rfl rfl) rfl rfl rfl ?_
    refine Sq.v (r_add (look_t rfl) (look_int 1)) rfl rfl rfl ?_
    refine Sq.v (r_nck (look_t rfl)) rfl rfl rfl ?_
    refine Sq.v (r_fa fd125_1 (look_t rfl)) rfl rfl rfl ?_
    refine Sq.store (i := 0) ((Lens.id T_mcase_Codes).comp le_T_mcase_Codes_at) (v := (w64 (x0.f_at + 1) : Int)) (b' := (({ x0 with f_at := w64 (x0.f_at + 1) } : T_mcase_Codes) : T_mcase_Codes)) ty3 (look_t rfl) (look_t rfl) rfl rfl rfl ?_
    refine Sq.nil ?_
    refine To.next ?_
    refine Wp.seq ?_
    obtain ⟨z1, hz1, h⟩ := bind_some h
    obtain ⟨k1, hk1, h⟩ := bind_some h
    obtain ⟨z2, hz2, h⟩ := bind_some h
    obtain ⟨y2, hy2, h⟩ := bind_some h
    refine Wp.draw mixed 14 [some 19, some 20, some 21, some 22, some 23, some 24, some 25, some 26, some 27, some 28, some 29, some 30, some 31, some 32] [[], [0], [1], [2], [], [4], [5], [6], [7], [3, 8], [9], [10], [], [11, 12]] [.val (VP.eq (.pointer (some ⟨pp0, 0, none⟩))), .val (VP.eq (.pointer (some ⟨pp0, 0, none⟩))), .val (VP.eq (.pointer (some ⟨pp0, 0 + 0, none⟩))), .val (VP.of (({ x0 with f_at := w64 (x0.f_at + 1) } : T_mcase_Codes).f_l)), .val (VP.eq (.pointer (some ⟨pp0, 0, none⟩))), .val (VP.eq (.pointer (some ⟨pp0, 0, none⟩))), .val (VP.eq (.pointer (some ⟨pp0, 0 + 1, none⟩))), .val (VP.of (({ x0 with f_at := w64 (x0.f_at + 1) } : T_mcase_Codes).f_at)), .val (VP.of (z1)), .val (VP.ptr (lget (({ x0 with f_at := w64 (x0.f_at + 1) } : T_mcase_Codes).f_l) k1)), .val (VP.of (lget (({ x0 with f_at := w64 (x0.f_at + 1) } : T_mcase_Codes).f_l) k1)), .val (VP.of (z2)), .val (VP.of (x1)), .val (VP.of (y2))] [false, false, false, false, false, false, false, false, false, false, false, false, false, false] (by kernel_rfl) rfl rfl rfl (fun ps1 => ⟨fun L' hL => HO.v (r_move (look_t rfl)) rfl, fun L' hL => HO.v (r_nck (look_t rfl)) rfl, fun L' hL => HO.v (r_fa fd125_0 (look_t rfl)) rfl, fun L' hL => HO.v (r_load (i := 0) ((Lens.id T_mcase_Codes).comp le_T_mcase_Codes_l) (r := ({ x0 with f_at := w64 (x0.f_at + 1) } : T_mcase_Codes).f_l) ty74 (look_t rfl) (hL _ _ rfl rfl) rfl rfl) rfl, fun L' hL => HO.v (r_move (look_t rfl)) rfl, fun L' hL => HO.v (r_nck (look_t rfl)) rfl, fun L' hL => HO.v (r_fa fd125_1 (look_t rfl)) rfl, fun L' hL => HO.v (r_load (i := 0) ((Lens.id T_mcase_Codes).comp le_T_mcase_Codes_at) (r := ({ x0 with f_at := w64 (x0.f_at + 1) } : T_mcase_Codes).f_at) ty3 (look_t rfl) (hL _ _ rfl rfl) rfl rfl) rfl, fun L' hL => HO.v ((r_sub (look_t rfl) (look_int 1)).as (some_in hz1)) rfl, fun L' hL => HO.v (r_ias (k := k1) Try.underlying74 ty5 (look_t rfl) (look_t rfl) (idx_some hk1)) rfl, fun L' hL => HO.v (r_loadp ty5 (look_t rfl)) rfl, fun L' hL => HO.v ((r_c8i Try.underlying5 Try.underlying3 (look_t rfl)).as (some_in hz2)) rfl, fun L' hL => HO.v (r_move (look_t rfl)) rfl, fun L' hL => HO.v (r_rem (look_t rfl) (look_t rfl) (modM_some hy2)) rfl, trivial⟩) fun ps1 => ?_
    refine Sq.v (r_asg (look_t rfl)) rfl rfl rfl ?_
    refine Sq.nil ?_
    refine To.next ?_
    refine Wp.ret ?_
    refine To.bring 0 rfl ?_
    replace h := some_in h
    subst h
    exact To.endO1 () (.cons_cons _ (List.nil_sublist _)) rfl rfl (rvo_t rfl)
set_option maxHeartbeats 2000000 in
theorem C_check_TableOf {x0 : T_api_Schema} {x1 : Int}  {r : Int} (h : L_check_TableOf x0 x1 = some r) : Meets Try.prog 80 [VP.of (x0), VP.of (x1)] (VP.of (r)) := by
  unfold L_check_TableOf at h
  refine Meets.of Try.func80 rfl Try.ntmps80 rfl fun W A => ?_
  refine Wp.seq ?_
  refine Wp.reg ?_
  refine Sq.box (z := (x0 : T_api_Schema)) (look_t rfl) rfl fun p1 => ?_
  refine Sq.box (z := (x1 : Int)) (look_t rfl) rfl fun p2 => ?_
  refine Sq.v (r_asg (look_int 0)) rfl rfl rfl ?_
  refine Sq.nil ?_
  refine To.next ?_
  refine Wp.seq ?_
  refine Wp.reg ?_
  refine Sq.v (r_fa fd84_4 (look_t rfl)) rfl rfl rfl ?_
  refine Sq.v (r_load (i := 1) ((Lens.id T_api_Schema).comp le_T_api_Schema_Tables) (r := x0.f_Tables) ty79 (look_t rfl) rfl rfl rfl) rfl rfl rfl ?_
  refine Sq.share (α := Int) 0 3 rfl rfl ?_
  refine Sq.v (r_clo1 (F := (fun a0 => L_check_TableOf_fn1 a0 x1)) (τs := [VP.ptr x1]) en103 ⟨look_t rfl, trivial⟩ (fun _ _ h => C_check_TableOf_fn1 h)) rfl rfl rfl ?_
  obtain ⟨y1, hy1, h⟩ := bind_some h
  refine Sq.v (r_call en102 (C_slices_IndexFunc_api_Table hy1) ⟨look_t rfl, look_t rfl, trivial⟩) rfl rfl rfl ?_
  refine Sq.v (r_asg (look_t rfl)) rfl rfl rfl ?_
  refine Sq.nil ?_
  refine To.next ?_
  refine Wp.ret ?_
  replace h := some_in h
  subst h
  exact To.end1 rfl (rv_t rfl)
set_option maxHeartbeats 2000000 in
theorem C_check_FieldOf {x0 : T_api_Schema} {x1 : Int}  {r : Int} (h : L_check_FieldOf x0 x1 = some r) : Meets Try.prog 81 [VP.of (x0), VP.of (x1)] (VP.of (r)) := by
  unfold L_check_FieldOf at h
  refine Meets.of Try.func81 rfl Try.ntmps81 rfl fun W A => ?_
  refine Wp.seq ?_
  refine Wp.reg ?_
  refine Sq.box (z := (x0 : T_api_Schema)) (look_t rfl) rfl fun p1 => ?_
  refine Sq.box (z := (x1 : Int)) (look_t rfl) rfl fun p2 => ?_
  refine Sq.v (r_asg (look_int 0)) rfl rfl rfl ?_
  refine Sq.nil ?_
  refine To.next ?_
  refine Wp.seq ?_
  refine Wp.reg ?_
  refine Sq.v (r_fa fd84_0 (look_t rfl)) rfl rfl rfl ?_
  refine Sq.v (r_load (i := 1) ((Lens.id T_api_Schema).comp le_T_api_Schema_Fields) (r := x0.f_Fields) ty75 (look_t rfl) rfl rfl rfl) rfl rfl rfl ?_
  refine Sq.share (α := Int) 0 3 rfl rfl ?_
  refine Sq.v (r_clo1 (F := (fun a0 => L_check_FieldOf_fn1 a0 x1)) (τs := [VP.ptr x1]) en105 ⟨look_t rfl, trivial⟩ (fun _ _ h => C_check_FieldOf_fn1 h)) rfl rfl rfl ?_
  obtain ⟨y1, hy1, h⟩ := bind_some h
  refine Sq.v (r_call en104 (C_slices_IndexFunc_api_Field hy1) ⟨look_t rfl, look_t rfl, trivial⟩) rfl rfl rfl ?_
  refine Sq.v (r_asg (look_t rfl)) rfl rfl rfl ?_
  refine Sq.nil ?_
  refine To.next ?_
  refine Wp.ret ?_
  replace h := some_in h
  subst h
  exact To.end1 rfl (rv_t rfl)
set_option maxHeartbeats 2000000 in
theorem C_value_Ones {x0 : Int}  {r : T_api_Value} (h : L_value_Ones x0 = some r) : Meets Try.prog 106 [VP.of (x0)] (VP.of (r)) := by
  unfold L_value_Ones at h
  refine Meets.of Try.func106 rfl Try.ntmps106 rfl fun W A => ?_
  refine Wp.seq ?_
  refine Wp.reg ?_
  refine Sq.alloc zr24 rfl fun p1 => ?_
  refine Sq.nil ?_
  refine To.next ?_
  refine Wp.seq ?_
  refine Wp.reg ?_
  obtain ⟨z1, hz1, h⟩ := bind_some h
  refine Sq.v ((r_build (b := { f_Hi := 18446744073709551615#64, f_Lo := 18446744073709551615#64 : T_api_Value }) rfl bu24 zr24 (.cons le_T_api_Value_Hi rfl (look_u64 18446744073709551615 rfl) rfl (.cons le_T_api_Value_Lo rfl (look_u64 18446744073709551615 rfl) rfl (.nil)))).as (some_in hz1)) rfl rfl rfl ?_
  refine Sq.v (r_move (look_t rfl)) rfl rfl rfl ?_
  obtain ⟨y1, hy1, h⟩ := bind_some h
  refine Sq.v (r_call en115 (C_value_within hy1) ⟨look_t rfl, trivial⟩) rfl rfl rfl ?_
  refine Sq.v (r_sub (look_int 128) (look_t rfl)) rfl rfl rfl ?_
  obtain ⟨y2, hy2, h⟩ := bind_some h
  refine Sq.v (r_call en112 (C_value_Right hy2) ⟨look_t rfl, look_t rfl, trivial⟩) rfl rfl rfl ?_
  refine Sq.store (i := 0) (Lens.id T_api_Value) (v := (y2 : T_api_Value)) (b' := (y2 : T_api_Value)) ty24 (look_t rfl) (look_t rfl) rfl rfl rfl ?_
  refine Sq.nil ?_
  refine To.next ?_
  refine Wp.ret ?_
  replace h := some_in h
  subst h
  exact To.end1 rfl (rv_c (i := 0) ty24 rfl rfl)
set_option maxHeartbeats 2000000 in
theorem C_ref04_TableOf {x0 : T_api_Schema} {x1 : Int}  {r : Int} (h : L_ref04_TableOf x0 x1 = some r) : Meets Try.prog 83 [VP.of (x0), VP.of (x1)] (VP.of (r)) := by
  unfold L_ref04_TableOf at h
  refine Meets.of Try.func83 rfl Try.ntmps83 rfl fun W A => ?_
  refine Wp.seq ?_
  refine Wp.reg ?_
  refine Sq.box (z := (x0 : T_api_Schema)) (look_t rfl) rfl fun p1 => ?_
  refine Sq.v (r_asg (look_int 0)) rfl rfl rfl ?_
  refine Sq.nil ?_
  refine To.next ?_
  refine Wp.seq ?_
  refine Wp.reg ?_
  refine Sq.v (r_load (i := 0) (Lens.id T_api_Schema) (r := x0) ty84 (look_t rfl) rfl rfl rfl) rfl rfl rfl ?_
  obtain ⟨y1, hy1, h⟩ := bind_some h
  refine Sq.v (r_call en109 (C_ref04_ids hy1) ⟨look_t rfl, trivial⟩) rfl rfl rfl ?_
  refine Sq.v (r_index (k := 4) Try.underlying186 ty43 (look_t rfl) (look_int 4) ⟨by decide, rfl⟩) rfl rfl rfl ?_
  refine Sq.v (r_move (look_t rfl)) rfl rfl rfl ?_
  obtain ⟨y2, hy2, h⟩ := bind_some h
  refine Sq.v (r_call en108 (C_ref04_index hy2) ⟨look_t rfl, look_t rfl, trivial⟩) rfl rfl rfl ?_
  refine Sq.v (r_asg (look_t rfl)) rfl rfl rfl ?_
  refine Sq.nil ?_
  refine To.next ?_
  refine Wp.ret ?_
  replace h := some_in h
  subst h
  exact To.end1 rfl (rv_t rfl)
set_option maxHeartbeats 2000000 in
theorem C_ref04_FieldOf {x0 : T_api_Schema} {x1 : Int}  {r : Int} (h : L_ref04_FieldOf x0 x1 = some r) : Meets Try.prog 110 [VP.of (x0), VP.of (x1)] (VP.of (r)) := by
  unfold L_ref04_FieldOf at h
  refine Meets.of Try.func110 rfl Try.ntmps110 rfl fun W A => ?_
  refine Wp.seq ?_
  refine Wp.reg ?_
  refine Sq.box (z := (x0 : T_api_Schema)) (look_t rfl) rfl fun p1 => ?_
  refine Sq.v (r_asg (look_int 0)) rfl rfl rfl ?_
  refine Sq.nil ?_
  refine To.next ?_
  refine Wp.seq ?_
  refine Wp.reg ?_
  refine Sq.v (r_load (i := 0) (Lens.id T_api_Schema) (r := x0) ty84 (look_t rfl) rfl rfl rfl) rfl rfl rfl ?_
  obtain ⟨y1, hy1, h⟩ := bind_some h
  refine Sq.v (r_call en109 (C_ref04_ids hy1) ⟨look_t rfl, trivial⟩) rfl rfl rfl ?_
  refine Sq.v (r_index (k := 0) Try.underlying186 ty43 (look_t rfl) (look_int 0) ⟨by decide, rfl⟩) rfl rfl rfl ?_
  refine Sq.v (r_move (look_t rfl)) rfl rfl rfl ?_
  obtain ⟨y2, hy2, h⟩ := bind_some h
  refine Sq.v (r_call en108 (C_ref04_index hy2) ⟨look_t rfl, look_t rfl, trivial⟩) rfl rfl rfl ?_
  refine Sq.v (r_asg (look_t rfl)) rfl rfl rfl ?_
  refine Sq.nil ?_
  refine To.next ?_
  refine Wp.ret ?_
  replace h := some_in h
  subst h
  exact To.end1 rfl (rv_t rfl)
set_option maxHeartbeats 2000000 in
theorem C_ref01_Ones {x0 : Int}  {r : T_api_Value} (h : L_ref01_Ones x0 = some r) : Meets Try.prog 65 [VP.of (x0)] (VP.of (r)) := by
  unfold L_ref01_Ones at h
  refine Meets.of Try.func65 rfl Try.ntmps65 rfl fun W A => ?_
  refine Wp.seq ?_
  refine Wp.reg ?_
  refine Sq.alloc zr24 rfl fun p1 => ?_
  refine Sq.nil ?_
  refine To.next ?_
  refine Wp.seq ?_
  refine Wp.reg ?_
  refine Sq.alloc zr111 rfl fun p2 => ?_
  refine Sq.nil ?_
  refine To.next ?_
  refine Wp.seq ?_
  refine Wp.seq ?_
  refine Wp.reg ?_
  refine Sq.v (r_asg (look_int 0)) rfl rfl rfl ?_
  refine Sq.nil ?_
  refine To.next ?_
  refine Wp.block ?_
  obtain ⟨e1, hl, h⟩ := bind_some h
  refine Wp.loopG (σ := Int × (Vector Bool 128)) (ε := (Int × Bool × (Vector Bool 128))) (γ := Unit) (δ := Unit) hl (fun s1 g1 => [(0, VP.of (x0)), (2, VP.eq (.pointer (some ⟨p1, 0, none⟩))), (3, VP.eq (.pointer (some ⟨p2, 0, none⟩))), (4, VP.of (s1.1))]) (fun s1 g1 => [⟨some p2, .var (s1.2 : Vector Bool 128)⟩, ⟨some p1, .var ((default : T_api_Value) : T_api_Value)⟩]) (fun q1 => Exit.exit 0) (fun q1 g1 => [(0, VP.of (x0)), (2, VP.eq (.pointer (some ⟨p1, 0, none⟩))), (3, VP.eq (.pointer (some ⟨p2, 0, none⟩))), (4, VP.of (q1.1)), (8, VP.of (q1.2.1))]) (fun q1 g1 => [⟨some p2, .var (q1.2.2 : Vector Bool 128)⟩, ⟨some p1, .var ((default : T_api_Value) : T_api_Value)⟩]) () rfl (.same rfl (.same rfl (.same rfl (.same rfl .nil)))) (fun s1 r h g1 => ?_) (fun g1 => ?_)
  · clear hl
    refine Wp.seq ?_
    refine Wp.seq ?_
    refine Wp.reg ?_
    refine Sq.v (r_move (look_t rfl)) rfl rfl rfl ?_
    refine Sq.v (r_move (look_t rfl)) rfl rfl rfl ?_
    obtain ⟨y1, hy1, h⟩ := bind_some h
    refine Sq.v (r_call en64 (C_ref01_clamp hy1) ⟨look_t rfl, trivial⟩) rfl rfl rfl ?_
    refine Sq.v (r_lss (look_t rfl) (look_t rfl)) rfl rfl rfl ?_
    refine Sq.nil ?_
    refine To.next ?_
    refine Wp.cond (look_t rfl) (fun hc => ?_) (fun hc => ?_)
    · replace h := cond_t hc h
      refine Wp.skip ?_
      refine To.next ?_
      refine Wp.seq ?_
      refine Wp.block ?_
      refine Wp.reg ?_
      refine Sq.v (r_move (look_t rfl)) rfl rfl rfl ?_
      obtain ⟨k1, hk1, h⟩ := bind_some h
      refine Sq.v (r_ia (k := k1) ar111 (look_t rfl) (look_t rfl) (idx_some hk1)) rfl rfl rfl ?_
      refine Sq.store (i := 0) ((Lens.id (Vector Bool 128)).comp (Lens.idx (α := Bool) 128 k1 (idx_some hk1).1)) (v := (true : Bool)) (b' := (vset s1.2 k1 true : Vector Bool 128)) ty4 (look_t rfl) (look_bool true) rfl rfl rfl ?_
      refine Sq.nil ?_
      refine To.bnorm ?_
      refine To.next ?_
      refine Wp.reg ?_
      refine Sq.v (r_move (look_t rfl)) rfl rfl rfl ?_
      refine Sq.v (r_add (look_t rfl) (look_int 1)) rfl rfl rfl ?_
      refine Sq.v (r_asg (look_t rfl)) rfl rfl rfl ?_
      refine Sq.nil ?_
      replace h := some_in h
      subst h
      exact To.roundG () 0 rfl (.same rfl (.same rfl (.same rfl (.same rfl .nil))))
    · replace h := cond_f hc h
      refine Wp.exit ?_
      refine To.exit ?_
      replace h := some_in h
      subst h
      exact To.leaveG () 0 rfl (by simp) rfl (.same rfl (.same rfl (.same rfl (.same rfl (.same rfl .nil)))))
  · clear hl
    refine To.bexit ?_
    refine To.next ?_
    refine Wp.seq ?_
    refine Wp.reg ?_
    refine Sq.v (r_load (i := 0) (Lens.id (Vector Bool 128)) (r := e1.2.2) ty111 (look_t rfl) rfl rfl rfl) rfl rfl rfl ?_
    obtain ⟨y2, hy2, h⟩ := bind_some h
    refine Sq.v (r_call en63 (C_ref01_Make hy2) ⟨look_t rfl, trivial⟩) rfl rfl rfl ?_
    refine Sq.store (i := 1) (Lens.id T_api_Value) (v := (y2 : T_api_Value)) (b' := (y2 : T_api_Value)) ty24 (look_t rfl) (look_t rfl) rfl rfl rfl ?_
    refine Sq.nil ?_
    refine To.next ?_
    refine Wp.ret ?_
    replace h := some_in h
    subst h
    exact To.end1 rfl (rv_c (i := 1) ty24 rfl rfl)
set_option maxHeartbeats 2000000 in
theorem C_ref01_Leading {x0 : Int} {x1 : Int}  {r : T_api_Value} (h : L_ref01_Leading x0 x1 = some r) : Meets Try.prog 84 [VP.of (x0), VP.of (x1)] (VP.of (r)) := by
  unfold L_ref01_Leading at h
  refine Meets.of Try.func84 rfl Try.ntmps84 rfl fun W A => ?_
  refine Wp.seq ?_
  refine Wp.reg ?_
  refine Sq.alloc zr24 rfl fun p1 => ?_
  refine Sq.nil ?_
  refine To.next ?_
  refine Wp.seq ?_
  refine Wp.reg ?_
  refine Sq.alloc zr111 rfl fun p2 => ?_
  refine Sq.nil ?_
  refine To.next ?_
  refine Wp.seq ?_
  refine Wp.reg ?_
  refine Sq.v (r_move (look_t rfl)) rfl rfl rfl ?_
  obtain ⟨y1, hy1, h⟩ := bind_some h
  refine Sq.v (r_call en64 (C_ref01_clamp hy1) ⟨look_t rfl, trivial⟩) rfl rfl rfl ?_
  refine Sq.v (r_asg (look_t rfl)) rfl rfl rfl ?_
  refine Sq.nil ?_
  refine To.next ?_
  refine Wp.seq ?_
  refine Wp.reg ?_
  refine Sq.v (r_move (look_t rfl)) rfl rfl rfl ?_
  refine Sq.v (r_move (look_t rfl)) rfl rfl rfl ?_
  refine Sq.v (r_min (look_t rfl) (look_t rfl)) rfl rfl rfl ?_
  refine Sq.v (r_max (look_int 0) (look_t rfl)) rfl rfl rfl ?_
  refine Sq.v (r_asg (look_t rfl)) rfl rfl rfl ?_
  refine Sq.nil ?_
  refine To.next ?_
  refine Wp.seq ?_
  refine Wp.seq ?_
  refine Wp.reg ?_
  refine Sq.v (r_move (look_t rfl)) rfl rfl rfl ?_
  refine Sq.v (r_move (look_t rfl)) rfl rfl rfl ?_
  refine Sq.v (r_sub (look_t rfl) (look_t rfl)) rfl rfl rfl ?_
  refine Sq.v (r_asg (look_t rfl)) rfl rfl rfl ?_
  refine Sq.nil ?_
  refine To.next ?_
  refine Wp.block ?_
  obtain ⟨e1, hl, h⟩ := bind_some h
  refine Wp.loopG (σ := Int × (Vector Bool 128)) (ε := (Int × Bool × (Vector Bool 128))) (γ := Unit) (δ := Unit) hl (fun s1 g1 => [(0, VP.of (y1)), (1, VP.of (max 0 (min x1 y1))), (4, VP.eq (.pointer (some ⟨p1, 0, none⟩))), (5, VP.eq (.pointer (some ⟨p2, 0, none⟩))), (6, VP.of (s1.1))]) (fun s1 g1 => [⟨some p2, .var (s1.2 : Vector Bool 128)⟩, ⟨some p1, .var ((default : T_api_Value) : T_api_Value)⟩]) (fun q1 => Exit.exit 0) (fun q1 g1 => [(0, VP.of (y1)), (1, VP.of (max 0 (min x1 y1))), (4, VP.eq (.pointer (some ⟨p1, 0, none⟩))), (5, VP.eq (.pointer (some ⟨p2, 0, none⟩))), (6, VP.of (q1.1)), (18, VP.of (q1.2.1))]) (fun q1 g1 => [⟨some p2, .var (q1.2.2 : Vector Bool 128)⟩, ⟨some p1, .var ((default : T_api_Value) : T_api_Value)⟩]) () rfl (.same rfl (.same rfl (.same rfl (.same rfl (.same rfl .nil))))) (fun s1 r h g1 => ?_) (fun g1 => ?_)
  · clear hl
    refine Wp.seq ?_
    refine Wp.seq ?_
    refine Wp.reg ?_
    refine Sq.v (r_move (look_t rfl)) rfl rfl rfl ?_
    refine Sq.v (r_move (look_t rfl)) rfl rfl rfl ?_
    refine Sq.v (r_lss (look_t rfl) (look_t rfl)) rfl rfl rfl ?_
    refine Sq.nil ?_
    refine To.next ?_
    refine Wp.cond (look_t rfl) (fun hc => ?_) (fun hc => ?_)
    · replace h := cond_t hc h
      refine Wp.skip ?_
      refine To.next ?_
      refine Wp.seq ?_
      refine Wp.block ?_
      refine Wp.reg ?_
      refine Sq.v (r_move (look_t rfl)) rfl rfl rfl ?_
      obtain ⟨k1, hk1, h⟩ := bind_some h
      refine Sq.v (r_ia (k := k1) ar111 (look_t rfl) (look_t rfl) (idx_some hk1)) rfl rfl rfl ?_
      refine Sq.store (i := 0) ((Lens.id (Vector Bool 128)).comp (Lens.idx (α := Bool) 128 k1 (idx_some hk1).1)) (v := (true : Bool)) (b' := (vset s1.2 k1 true : Vector Bool 128)) ty4 (look_t rfl) (look_bool true) rfl rfl rfl ?_
      refine Sq.nil ?_
      refine To.bnorm ?_
      refine To.next ?_
      refine Wp.reg ?_
      refine Sq.v (r_move (look_t rfl)) rfl rfl rfl ?_
      refine Sq.v (r_add (look_t rfl) (look_int 1)) rfl rfl rfl ?_
      refine Sq.v (r_asg (look_t rfl)) rfl rfl rfl ?_
      refine Sq.nil ?_
      replace h := some_in h
      subst h
      exact To.roundG () 0 rfl (.same rfl (.same rfl (.same rfl (.same rfl (.same rfl .nil)))))
    · replace h := cond_f hc h
      refine Wp.exit ?_
      refine To.exit ?_
      replace h := some_in h
      subst h
      exact To.leaveG () 0 rfl (by simp) rfl (.same rfl (.same rfl (.same rfl (.same rfl (.same rfl (.same rfl .nil))))))
  · clear hl
    refine To.bexit ?_
    refine To.next ?_
    refine Wp.seq ?_
    refine Wp.reg ?_
    refine Sq.v (r_load (i := 0) (Lens.id (Vector Bool 128)) (r := e1.2.2) ty111 (look_t rfl) rfl rfl rfl) rfl rfl rfl ?_
    obtain ⟨y2, hy2, h⟩ := bind_some h
    refine Sq.v (r_call en63 (C_ref01_Make hy2) ⟨look_t rfl, trivial⟩) rfl rfl rfl ?_
    refine Sq.store (i := 1) (Lens.id T_api_Value) (v := (y2 : T_api_Value)) (b' := (y2 : T_api_Value)) ty24 (look_t rfl) (look_t rfl) rfl rfl rfl ?_
    refine Sq.nil ?_
    refine To.next ?_
    refine Wp.ret ?_
    replace h := some_in h
    subst h
    exact To.end1 rfl (rv_c (i := 1) ty24 rfl rfl)
end Go.Proofs.Ytabodolbdalimaa
