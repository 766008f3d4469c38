/-
  Printed by the decompiler (dec.py) out of the seat's translation. Each function meets its functional program. Conditions: none.
-/
import Derived.Test.YtabodolbdalimaaDc0
namespace Go.Proofs.Ytabodolbdalimaa
open Go Gv
set_option linter.unusedVariables false
set_option linter.unusedSimpArgs false
set_option maxRecDepth 100000
set_option maxHeartbeats 2000000 in
theorem C_value_Or {x0 : T_api_Value} {x1 : T_api_Value} {r : T_api_Value} (h : L_value_Or x0 x1 = some r) : Meets Try.prog 58 [VP.of (x0), VP.of (x1)] (VP.of (r)) := by
  unfold L_value_Or at h
  refine Meets.of Try.func58 rfl Try.ntmps58 rfl fun W A => ?_
  refine Wp.seq ?_
  refine Wp.reg ?_
  refine Sq.box (z := (x0 : T_api_Value)) (look_t rfl) rfl fun p1 => ?_
  refine Sq.box (z := (x1 : T_api_Value)) (look_t rfl) rfl fun p2 => ?_
  refine Sq.alloc zr24 rfl fun p3 => ?_
  refine Sq.nil ?_
  refine To.next ?_
  refine Wp.seq ?_
  refine Wp.reg ?_
  refine Sq.v (r_fa fd24_0 (look_t rfl)) rfl rfl rfl ?_
  refine Sq.v (r_load (i := 2) ((Lens.id T_api_Value).comp le_T_api_Value_Hi) (r := x0.f_Hi) ty22 (look_t rfl) rfl rfl rfl) rfl rfl rfl ?_
  refine Sq.v (r_fa fd24_0 (look_t rfl)) rfl rfl rfl ?_
  refine Sq.v (r_load (i := 1) ((Lens.id T_api_Value).comp le_T_api_Value_Hi) (r := x1.f_Hi) ty22 (look_t rfl) rfl rfl rfl) rfl rfl rfl ?_
  refine Sq.v (r_or64 (look_t rfl) (look_t rfl)) rfl rfl rfl ?_
  refine Sq.v (r_fa fd24_1 (look_t rfl)) rfl rfl rfl ?_
  refine Sq.v (r_load (i := 2) ((Lens.id T_api_Value).comp le_T_api_Value_Lo) (r := x0.f_Lo) ty22 (look_t rfl) rfl rfl rfl) rfl rfl rfl ?_
  refine Sq.v (r_fa fd24_1 (look_t rfl)) rfl rfl rfl ?_
  refine Sq.v (r_load (i := 1) ((Lens.id T_api_Value).comp le_T_api_Value_Lo) (r := x1.f_Lo) ty22 (look_t rfl) rfl rfl rfl) rfl rfl rfl ?_
  refine Sq.v (r_or64 (look_t rfl) (look_t rfl)) rfl rfl rfl ?_
  obtain ⟨z1, hz1, h⟩ := bind_some h
  refine Sq.v ((r_build (b := { f_Hi := x0.f_Hi ||| x1.f_Hi, f_Lo := x0.f_Lo ||| x1.f_Lo : T_api_Value }) rfl bu24 zr24 (.cons le_T_api_Value_Hi rfl (look_t rfl) rfl (.cons le_T_api_Value_Lo rfl (look_t rfl) rfl (.nil)))).as (some_in hz1)) rfl rfl rfl ?_
  refine Sq.store (i := 0) (Lens.id T_api_Value) (v := (z1 : T_api_Value)) (b' := (z1 : T_api_Value)) ty24 (look_t rfl) (look_t rfl) rfl rfl rfl ?_
  refine Sq.nil ?_
  refine To.next ?_
  refine Wp.ret ?_
  replace h := some_in h
  subst h
  exact To.end1 rfl (rv_c (i := 0) ty24 rfl rfl)
set_option maxHeartbeats 2000000 in
theorem C_cube_Meet {x0 : T_cube_Cube} {x1 : T_cube_Cube} {r : T_cube_Cube × Bool} (h : L_cube_Meet x0 x1 = some r) : Meets Try.prog 18 [VP.of (x0), VP.of (x1)] (VP.tup [VP.of (r.1), VP.of (r.2)]) := by
  unfold L_cube_Meet at h
  refine Meets.of Try.func18 rfl Try.ntmps18 rfl fun W A => ?_
  refine Wp.seq ?_
  refine Wp.reg ?_
  refine Sq.box (z := (x0 : T_cube_Cube)) (look_t rfl) rfl fun p1 => ?_
  refine Sq.box (z := (x1 : T_cube_Cube)) (look_t rfl) rfl fun p2 => ?_
  refine Sq.alloc zr28 rfl fun p3 => ?_
  refine Sq.v (r_asg (look_bool false)) rfl rfl rfl ?_
  refine Sq.nil ?_
  refine To.next ?_
  refine Wp.seq ?_
  refine Wp.reg ?_
  refine Sq.v (r_fa fd28_1 (look_t rfl)) rfl rfl rfl ?_
  refine Sq.v (r_load (i := 2) ((Lens.id T_cube_Cube).comp le_T_cube_Cube_Mask) (r := x0.f_Mask) ty26 (look_t rfl) rfl rfl rfl) rfl rfl rfl ?_
  refine Sq.v (r_fa fd28_1 (look_t rfl)) rfl rfl rfl ?_
  refine Sq.v (r_load (i := 1) ((Lens.id T_cube_Cube).comp le_T_cube_Cube_Mask) (r := x1.f_Mask) ty26 (look_t rfl) rfl rfl rfl) rfl rfl rfl ?_
  obtain ⟨y1, hy1, h⟩ := bind_some h
  refine Sq.v (r_call en52 (C_cube_combined hy1) ⟨look_t rfl, look_t rfl, look_fn2 en56 (fun _ _ _ => C_value_And), trivial⟩) rfl rfl rfl ?_
  refine Sq.alloc zr26 rfl fun p4 => ?_
  refine Sq.store (i := 0) (Lens.id (Vector T_api_Value 4)) (v := (y1 : Vector T_api_Value 4)) (b' := (y1 : Vector T_api_Value 4)) ty26 (look_t rfl) (look_t rfl) rfl rfl rfl ?_
  refine Sq.nil ?_
  refine To.next ?_
  refine Wp.seq ?_
  refine Wp.seq ?_
  obtain ⟨y2, hy2, h⟩ := bind_some h
  obtain ⟨y3, hy3, h⟩ := bind_some h
  refine Wp.draw mixed 9 [some 12, some 13, some 14, some 15, some 16, some 17, some 18, some 19, some 20] [[], [0], [], [2], [1, 3], [], [4, 5], [], [6, 7]] [.val (VP.eq (.pointer (some ⟨p1, 0 + 0, none⟩))), .val (VP.of (x0.f_Value)), .val (VP.eq (.pointer (some ⟨p2, 0 + 0, none⟩))), .val (VP.of (x1.f_Value)), .val (VP.of (y2)), .val (VP.of (y1)), .val (VP.of (y3)), .val (VP.of (default : Vector T_api_Value 4)), .val (VP.of (!decide (y3 = (default : Vector T_api_Value 4))))] [false, false, false, false, false, false, false, false, false] (by kernel_rfl) rfl rfl rfl (fun ps1 => ⟨fun L' hL => HO.v (r_fa fd28_0 (look_t rfl)) rfl, fun L' hL => HO.v (r_load (i := 3) ((Lens.id T_cube_Cube).comp le_T_cube_Cube_Value) (r := x0.f_Value) ty26 (look_t rfl) (hL _ _ rfl rfl) rfl rfl) rfl, fun L' hL => HO.v (r_fa fd28_0 (look_t rfl)) rfl, fun L' hL => HO.v (r_load (i := 2) ((Lens.id T_cube_Cube).comp le_T_cube_Cube_Value) (r := x1.f_Value) ty26 (look_t rfl) (hL _ _ rfl rfl) rfl rfl) rfl, fun L' hL => HO.v (r_call en52 (C_cube_combined hy2) ⟨look_t rfl, look_t rfl, look_fn2 en57 (fun _ _ _ => C_value_Xor), trivial⟩) rfl, fun L' hL => HO.v (r_load (i := 0) (Lens.id (Vector T_api_Value 4)) (r := y1) ty26 (look_t rfl) (hL _ _ rfl rfl) rfl rfl) rfl, fun L' hL => HO.v (r_call en52 (C_cube_combined hy3) ⟨look_t rfl, look_t rfl, look_fn2 en56 (fun _ _ _ => C_value_And), trivial⟩) rfl, fun L' hL => HO.v (r_buildA (b := (default : Vector T_api_Value 4)) (sz := 2) rfl Try.underlying26 (by kernel_rfl) zr26 (.nil)) rfl, fun L' hL => HO.v (r_neA eqv26 rfl eqg26 rfl (look_t rfl) (look_t rfl)) rfl, trivial⟩) fun ps1 => ?_
  refine Sq.nil ?_
  refine To.next ?_
  refine Wp.cond (look_t rfl) (fun hc => ?_) (fun hc => ?_)
  · replace h := cond_t hc h
    refine Wp.seq ?_
    refine Wp.reg ?_
    refine Sq.v (r_build (b := (default : T_cube_Cube)) rfl bu28 zr28 (.nil)) rfl rfl rfl ?_
    refine Sq.store (i := 1) (Lens.id T_cube_Cube) (v := ((default : T_cube_Cube) : T_cube_Cube)) (b' := ((default : T_cube_Cube) : T_cube_Cube)) ty28 (look_t rfl) (look_t rfl) rfl rfl rfl ?_
    refine Sq.v (r_asg (look_bool false)) rfl rfl rfl ?_
    refine Sq.nil ?_
    refine To.next ?_
    refine Wp.ret ?_
    refine To.ret ?_
    replace h := some_in h
    subst h
    exact To.end2 rfl (rv_c (i := 1) ty28 rfl rfl) (rv_t rfl)
  · replace h := cond_f hc h
    refine Wp.skip ?_
    refine To.next ?_
    refine Wp.seq ?_
    obtain ⟨y4, hy4, h⟩ := bind_some h
    obtain ⟨y5, hy5, h⟩ := bind_some h
    refine Wp.draw mixed 11 [some 22, some 23, some 24, some 25, some 26, some 27, some 28, some 29, some 30, some 31, some 32] [[], [0], [], [2], [1, 3], [], [5], [], [7], [6, 8], [4, 9]] [.val (VP.eq (.pointer (some ⟨p1, 0 + 0, none⟩))), .val (VP.of (x0.f_Value)), .val (VP.eq (.pointer (some ⟨p2, 0 + 0, none⟩))), .val (VP.of (x1.f_Value)), .val (VP.of (y4)), .val (VP.eq (.pointer (some ⟨p1, 0 + 8, none⟩))), .val (VP.of (x0.f_Mask)), .val (VP.eq (.pointer (some ⟨p2, 0 + 8, none⟩))), .val (VP.of (x1.f_Mask)), .val (VP.of (y5)), .val (VP.of ({ f_Value := y4, f_Mask := y5 : T_cube_Cube }))] [false, false, false, false, false, false, false, false, false, false, false] (by kernel_rfl) rfl rfl rfl (fun ps2 => ⟨fun L' hL => HO.v (r_fa fd28_0 (look_t rfl)) rfl, fun L' hL => HO.v (r_load (i := 3) ((Lens.id T_cube_Cube).comp le_T_cube_Cube_Value) (r := x0.f_Value) ty26 (look_t rfl) (hL _ _ rfl rfl) rfl rfl) rfl, fun L' hL => HO.v (r_fa fd28_0 (look_t rfl)) rfl, fun L' hL => HO.v (r_load (i := 2) ((Lens.id T_cube_Cube).comp le_T_cube_Cube_Value) (r := x1.f_Value) ty26 (look_t rfl) (hL _ _ rfl rfl) rfl rfl) rfl, fun L' hL => HO.v (r_call en52 (C_cube_combined hy4) ⟨look_t rfl, look_t rfl, look_fn2 en58 (fun _ _ _ => C_value_Or), trivial⟩) rfl, fun L' hL => HO.v (r_fa fd28_1 (look_t rfl)) rfl, fun L' hL => HO.v (r_load (i := 3) ((Lens.id T_cube_Cube).comp le_T_cube_Cube_Mask) (r := x0.f_Mask) ty26 (look_t rfl) (hL _ _ rfl rfl) rfl rfl) rfl, fun L' hL => HO.v (r_fa fd28_1 (look_t rfl)) rfl, fun L' hL => HO.v (r_load (i := 2) ((Lens.id T_cube_Cube).comp le_T_cube_Cube_Mask) (r := x1.f_Mask) ty26 (look_t rfl) (hL _ _ rfl rfl) rfl rfl) rfl, fun L' hL => HO.v (r_call en52 (C_cube_combined hy5) ⟨look_t rfl, look_t rfl, look_fn2 en58 (fun _ _ _ => C_value_Or), trivial⟩) rfl, fun L' hL => HO.v (r_build (b := { f_Value := y4, f_Mask := y5 : T_cube_Cube }) rfl bu28 zr28 (.cons le_T_cube_Cube_Value rfl (look_t rfl) rfl (.cons le_T_cube_Cube_Mask rfl (look_t rfl) rfl (.nil)))) rfl, trivial⟩) fun ps2 => ?_
    refine Sq.store (i := 1) (Lens.id T_cube_Cube) (v := ({ f_Value := y4, f_Mask := y5 : T_cube_Cube } : T_cube_Cube)) (b' := ({ f_Value := y4, f_Mask := y5 : T_cube_Cube } : T_cube_Cube)) ty28 (look_t rfl) (look_t rfl) rfl rfl rfl ?_
    refine Sq.v (r_asg (look_bool true)) rfl rfl rfl ?_
    refine Sq.nil ?_
    refine To.next ?_
    refine Wp.ret ?_
    replace h := some_in h
    subst h
    exact To.end2 rfl (rv_c (i := 1) ty28 rfl rfl) (rv_t rfl)
set_option maxHeartbeats 2000000 in
theorem C_value_within {x0 : Int} {r : Int} (h : L_value_within x0 = some r) : Meets Try.prog 115 [VP.of (x0)] (VP.of (r)) := by
  unfold L_value_within at h
  refine Meets.of Try.func115 rfl Try.ntmps115 rfl fun W A => ?_
  refine Wp.seq ?_
  refine Wp.reg ?_
  refine Sq.v (r_asg (look_int 0)) rfl rfl rfl ?_
  refine Sq.nil ?_
  refine To.next ?_
  refine Wp.seq ?_
  refine Wp.reg ?_
  refine Sq.v (r_move (look_t rfl)) rfl rfl rfl ?_
  refine Sq.v (r_max (look_int 0) (look_t rfl)) rfl rfl rfl ?_
  refine Sq.v (r_min (look_t rfl) (look_int 128)) rfl rfl rfl ?_
  refine Sq.v (r_asg (look_t rfl)) rfl rfl rfl ?_
  refine Sq.nil ?_
  refine To.next ?_
  refine Wp.ret ?_
  replace h := some_in h
  subst h
  exact To.end1 rfl (rv_t rfl)
set_option maxHeartbeats 2000000 in
theorem C_value_Right {x0 : T_api_Value} {x1 : Int} {r : T_api_Value} (h : L_value_Right x0 x1 = some r) : Meets Try.prog 112 [VP.of (x0), VP.of (x1)] (VP.of (r)) := by
  unfold L_value_Right at h
  refine Meets.of Try.func112 rfl Try.ntmps112 rfl fun W A => ?_
  refine Wp.seq ?_
  refine Wp.reg ?_
  refine Sq.box (z := (x0 : T_api_Value)) (look_t rfl) rfl fun p1 => ?_
  refine Sq.alloc zr24 rfl fun p2 => ?_
  refine Sq.nil ?_
  refine To.next ?_
  refine Wp.seq ?_
  refine Wp.block ?_
  refine Wp.seq ?_
  refine Wp.reg ?_
  refine Sq.v (r_move (look_t rfl)) rfl rfl rfl ?_
  refine Sq.v (r_leq (look_t rfl) (look_int 0)) rfl rfl rfl ?_
  refine Sq.v (r_asg (look_t rfl)) rfl rfl rfl ?_
  refine Sq.nil ?_
  refine To.next ?_
  refine Wp.cond (look_t rfl) (fun hc => ?_) (fun hc => ?_)
  · replace h := cond_t hc h
    refine Wp.seq ?_
    refine Wp.reg ?_
    refine Sq.v (r_load (i := 1) (Lens.id T_api_Value) (r := x0) ty24 (look_t rfl) rfl rfl rfl) rfl rfl rfl ?_
    refine Sq.store (i := 0) (Lens.id T_api_Value) (v := (x0 : T_api_Value)) (b' := (x0 : T_api_Value)) ty24 (look_t rfl) (look_t rfl) rfl rfl rfl ?_
    refine Sq.nil ?_
    refine To.next ?_
    refine Wp.ret ?_
    refine To.bret ?_
    refine To.ret ?_
    replace h := some_in h
    subst h
    exact To.end1 rfl (rv_c (i := 0) ty24 rfl rfl)
  · replace h := cond_f hc h
    refine Wp.seq ?_
    refine Wp.reg ?_
    refine Sq.v (r_move (look_t rfl)) rfl rfl rfl ?_
    refine Sq.v (r_geq (look_t rfl) (look_int 64)) rfl rfl rfl ?_
    refine Sq.v (r_asg (look_t rfl)) rfl rfl rfl ?_
    refine Sq.nil ?_
    refine To.next ?_
    refine Wp.cond (look_t rfl) (fun hc => ?_) (fun hc => ?_)
    · replace h := cond_t hc h
      refine Wp.seq ?_
      refine Wp.reg ?_
      refine Sq.v (r_fa fd24_0 (look_t rfl)) rfl rfl rfl ?_
      refine Sq.v (r_load (i := 1) ((Lens.id T_api_Value).comp le_T_api_Value_Hi) (r := x0.f_Hi) ty22 (look_t rfl) rfl rfl rfl) rfl rfl rfl ?_
      refine Sq.v (r_move (look_t rfl)) rfl rfl rfl ?_
      refine Sq.v (r_sub (look_t rfl) (look_int 64)) rfl rfl rfl ?_
      refine Sq.v (r_ci64 Try.underlying3 Try.underlying117 (look_t rfl)) rfl rfl rfl ?_
      refine Sq.v (r_shr64 (look_t rfl) (look_t rfl)) rfl rfl rfl ?_
      obtain ⟨z1, hz1, h⟩ := bind_some h
      refine Sq.v ((r_build (b := { (default : T_api_Value) with f_Lo := x0.f_Hi >>> (BitVec.ofInt 64 (w64 (x1 - 64))).toNat }) rfl bu24 zr24 (.cons le_T_api_Value_Lo rfl (look_t rfl) rfl (.nil))).as (some_in hz1)) rfl rfl rfl ?_
      refine Sq.store (i := 0) (Lens.id T_api_Value) (v := (z1 : T_api_Value)) (b' := (z1 : T_api_Value)) ty24 (look_t rfl) (look_t rfl) rfl rfl rfl ?_
      refine Sq.nil ?_
      refine To.next ?_
      refine Wp.ret ?_
      refine To.bret ?_
      refine To.ret ?_
      replace h := some_in h
      subst h
      exact To.end1 rfl (rv_c (i := 0) ty24 rfl rfl)
    · replace h := cond_f hc h
      refine Wp.skip ?_
      refine To.bnorm ?_
      refine To.next ?_
      refine Wp.seq ?_
      refine Wp.reg ?_
      refine Sq.v (r_fa fd24_0 (look_t rfl)) rfl rfl rfl ?_
      refine Sq.v (r_load (i := 1) ((Lens.id T_api_Value).comp le_T_api_Value_Hi) (r := x0.f_Hi) ty22 (look_t rfl) rfl rfl rfl) rfl rfl rfl ?_
      refine Sq.v (r_move (look_t rfl)) rfl rfl rfl ?_
      refine Sq.v (r_ci64 Try.underlying3 Try.underlying117 (look_t rfl)) rfl rfl rfl ?_
      refine Sq.v (r_shr64 (look_t rfl) (look_t rfl)) rfl rfl rfl ?_
      refine Sq.v (r_fa fd24_1 (look_t rfl)) rfl rfl rfl ?_
      refine Sq.v (r_load (i := 1) ((Lens.id T_api_Value).comp le_T_api_Value_Lo) (r := x0.f_Lo) ty22 (look_t rfl) rfl rfl rfl) rfl rfl rfl ?_
      refine Sq.v (r_move (look_t rfl)) rfl rfl rfl ?_
      refine Sq.v (r_ci64 Try.underlying3 Try.underlying117 (look_t rfl)) rfl rfl rfl ?_
      refine Sq.v (r_shr64 (look_t rfl) (look_t rfl)) rfl rfl rfl ?_
      refine Sq.v (r_fa fd24_0 (look_t rfl)) rfl rfl rfl ?_
      refine Sq.v (r_load (i := 1) ((Lens.id T_api_Value).comp le_T_api_Value_Hi) (r := x0.f_Hi) ty22 (look_t rfl) rfl rfl rfl) rfl rfl rfl ?_
      refine Sq.v (r_move (look_t rfl)) rfl rfl rfl ?_
      refine Sq.v (r_sub (look_int 64) (look_t rfl)) rfl rfl rfl ?_
      refine Sq.v (r_ci64 Try.underlying3 Try.underlying117 (look_t rfl)) rfl rfl rfl ?_
      refine Sq.v (r_shl64 (look_t rfl) (look_t rfl)) rfl rfl rfl ?_
      obtain ⟨z2, hz2, h⟩ := bind_some h
      refine Sq.v ((r_or64 (look_t rfl) (look_t rfl)).as (some_in hz2)) rfl rfl rfl ?_
      obtain ⟨z3, hz3, h⟩ := bind_some h
      refine Sq.v ((r_build (b := { f_Hi := x0.f_Hi >>> (BitVec.ofInt 64 x1).toNat, f_Lo := z2 : T_api_Value }) rfl bu24 zr24 (.cons le_T_api_Value_Hi rfl (look_t rfl) rfl (.cons le_T_api_Value_Lo rfl (look_t rfl) rfl (.nil)))).as (some_in hz3)) rfl rfl rfl ?_
      refine Sq.store (i := 0) (Lens.id T_api_Value) (v := (z3 : T_api_Value)) (b' := (z3 : T_api_Value)) ty24 (look_t rfl) (look_t rfl) rfl rfl rfl ?_
      refine Sq.nil ?_
      refine To.next ?_
      refine Wp.ret ?_
      replace h := some_in h
      subst h
      exact To.end1 rfl (rv_c (i := 0) ty24 rfl rfl)
set_option maxHeartbeats 2000000 in
theorem C_value_Ones {x0 : Int} {r : T_api_Value} (h : L_value_Ones x0 = some r) : Meets Try.prog 106 [VP.of (x0)] (VP.of (r)) := by
  unfold L_value_Ones at h
  refine Meets.of Try.func106 rfl Try.ntmps106 rfl fun W A => ?_
  refine Wp.seq ?_
  refine Wp.reg ?_
  refine Sq.alloc zr24 rfl fun p1 => ?_
  refine Sq.nil ?_
  refine To.next ?_
  refine Wp.seq ?_
  refine Wp.reg ?_
  obtain ⟨z1, hz1, h⟩ := bind_some h
  refine Sq.v ((r_build (b := { f_Hi := 18446744073709551615#64, f_Lo := 18446744073709551615#64 : T_api_Value }) rfl bu24 zr24 (.cons le_T_api_Value_Hi rfl (look_u64 18446744073709551615 rfl) rfl (.cons le_T_api_Value_Lo rfl (look_u64 18446744073709551615 rfl) rfl (.nil)))).as (some_in hz1)) rfl rfl rfl ?_
  refine Sq.v (r_move (look_t rfl)) rfl rfl rfl ?_
  obtain ⟨y1, hy1, h⟩ := bind_some h
  refine Sq.v (r_call en115 (C_value_within hy1) ⟨look_t rfl, trivial⟩) rfl rfl rfl ?_
  refine Sq.v (r_sub (look_int 128) (look_t rfl)) rfl rfl rfl ?_
  obtain ⟨y2, hy2, h⟩ := bind_some h
  refine Sq.v (r_call en112 (C_value_Right hy2) ⟨look_t rfl, look_t rfl, trivial⟩) rfl rfl rfl ?_
  refine Sq.store (i := 0) (Lens.id T_api_Value) (v := (y2 : T_api_Value)) (b' := (y2 : T_api_Value)) ty24 (look_t rfl) (look_t rfl) rfl rfl rfl ?_
  refine Sq.nil ?_
  refine To.next ?_
  refine Wp.ret ?_
  replace h := some_in h
  subst h
  exact To.end1 rfl (rv_c (i := 0) ty24 rfl rfl)
set_option maxHeartbeats 2000000 in
theorem C_value_Not {x0 : T_api_Value} {x1 : Int} {r : T_api_Value} (h : L_value_Not x0 x1 = some r) : Meets Try.prog 89 [VP.of (x0), VP.of (x1)] (VP.of (r)) := by
  unfold L_value_Not at h
  refine Meets.of Try.func89 rfl Try.ntmps89 rfl fun W A => ?_
  refine Wp.seq ?_
  refine Wp.reg ?_
  refine Sq.box (z := (x0 : T_api_Value)) (look_t rfl) rfl fun p1 => ?_
  refine Sq.alloc zr24 rfl fun p2 => ?_
  refine Sq.nil ?_
  refine To.next ?_
  refine Wp.seq ?_
  obtain ⟨y1, hy1, h⟩ := bind_some h
  obtain ⟨y2, hy2, h⟩ := bind_some h
  refine Wp.draw mixed 10 [some 5, some 6, some 7, some 8, some 9, some 10, some 11, some 12, some 13, some 14] [[], [0], [], [2], [3], [], [5], [6], [4, 7], [1, 8]] [.val (VP.of (x1)), .val (VP.of (y1)), .val (VP.eq (.pointer (some ⟨p1, 0 + 0, none⟩))), .val (VP.of (x0.f_Hi)), .val (VP.of (~~~x0.f_Hi)), .val (VP.eq (.pointer (some ⟨p1, 0 + 1, none⟩))), .val (VP.of (x0.f_Lo)), .val (VP.of (~~~x0.f_Lo)), .val (VP.of ({ f_Hi := ~~~x0.f_Hi, f_Lo := ~~~x0.f_Lo : T_api_Value })), .val (VP.of (y2))] [false, false, false, false, false, false, false, false, false, false] (by kernel_rfl) rfl rfl rfl (fun ps1 => ⟨fun L' hL => HO.v (r_move (look_t rfl)) rfl, fun L' hL => HO.v (r_call en106 (C_value_Ones hy1) ⟨look_t rfl, trivial⟩) rfl, fun L' hL => HO.v (r_fa fd24_0 (look_t rfl)) rfl, fun L' hL => HO.v (r_load (i := 1) ((Lens.id T_api_Value).comp le_T_api_Value_Hi) (r := x0.f_Hi) ty22 (look_t rfl) (hL _ _ rfl rfl) rfl rfl) rfl, fun L' hL => HO.v (r_com64 (look_t rfl)) rfl, fun L' hL => HO.v (r_fa fd24_1 (look_t rfl)) rfl, fun L' hL => HO.v (r_load (i := 1) ((Lens.id T_api_Value).comp le_T_api_Value_Lo) (r := x0.f_Lo) ty22 (look_t rfl) (hL _ _ rfl rfl) rfl rfl) rfl, fun L' hL => HO.v (r_com64 (look_t rfl)) rfl, fun L' hL => HO.v (r_build (b := { f_Hi := ~~~x0.f_Hi, f_Lo := ~~~x0.f_Lo : T_api_Value }) rfl bu24 zr24 (.cons le_T_api_Value_Hi rfl (look_t rfl) rfl (.cons le_T_api_Value_Lo rfl (look_t rfl) rfl (.nil)))) rfl, fun L' hL => HO.v (r_call en56 (C_value_And hy2) ⟨look_t rfl, look_t rfl, trivial⟩) rfl, trivial⟩) fun ps1 => ?_
  refine Sq.store (i := 0) (Lens.id T_api_Value) (v := (y2 : T_api_Value)) (b' := (y2 : T_api_Value)) ty24 (look_t rfl) (look_t rfl) rfl rfl rfl ?_
  refine Sq.nil ?_
  refine To.next ?_
  refine Wp.ret ?_
  replace h := some_in h
  subst h
  exact To.end1 rfl (rv_c (i := 0) ty24 rfl rfl)
set_option maxHeartbeats 2000000 in
theorem C_cube_without {x0 : T_api_Value} {x1 : T_api_Value} {r : T_api_Value} (h : L_cube_without x0 x1 = some r) : Meets Try.prog 53 [VP.of (x0), VP.of (x1)] (VP.of (r)) := by
  unfold L_cube_without at h
  refine Meets.of Try.func53 rfl Try.ntmps53 rfl fun W A => ?_
  refine Wp.seq ?_
  refine Wp.reg ?_
  refine Sq.box (z := (x0 : T_api_Value)) (look_t rfl) rfl fun p1 => ?_
  refine Sq.box (z := (x1 : T_api_Value)) (look_t rfl) rfl fun p2 => ?_
  refine Sq.alloc zr24 rfl fun p3 => ?_
  refine Sq.nil ?_
  refine To.next ?_
  refine Wp.seq ?_
  obtain ⟨y1, hy1, h⟩ := bind_some h
  obtain ⟨y2, hy2, h⟩ := bind_some h
  refine Wp.draw mixed 4 [some 5, some 6, some 7, some 8] [[], [], [1], [0, 2]] [.val (VP.of (x0)), .val (VP.of (x1)), .val (VP.of (y1)), .val (VP.of (y2))] [false, false, false, false] (by kernel_rfl) rfl rfl rfl (fun ps1 => ⟨fun L' hL => HO.v (r_load (i := 2) (Lens.id T_api_Value) (r := x0) ty24 (look_t rfl) (hL _ _ rfl rfl) rfl rfl) rfl, fun L' hL => HO.v (r_load (i := 1) (Lens.id T_api_Value) (r := x1) ty24 (look_t rfl) (hL _ _ rfl rfl) rfl rfl) rfl, fun L' hL => HO.v (r_call en89 (C_value_Not hy1) ⟨look_t rfl, look_int 128, trivial⟩) rfl, fun L' hL => HO.v (r_call en56 (C_value_And hy2) ⟨look_t rfl, look_t rfl, trivial⟩) rfl, trivial⟩) fun ps1 => ?_
  refine Sq.store (i := 0) (Lens.id T_api_Value) (v := (y2 : T_api_Value)) (b' := (y2 : T_api_Value)) ty24 (look_t rfl) (look_t rfl) rfl rfl rfl ?_
  refine Sq.nil ?_
  refine To.next ?_
  refine Wp.ret ?_
  replace h := some_in h
  subst h
  exact To.end1 rfl (rv_c (i := 0) ty24 rfl rfl)
set_option maxHeartbeats 2000000 in
theorem C_cube_place {x0 : Int} {r : Int × Int} (h : L_cube_place x0 = some r) : Meets Try.prog 59 [VP.of (x0)] (VP.tup [VP.of (r.1), VP.of (r.2)]) := by
  unfold L_cube_place at h
  refine Meets.of Try.func59 rfl Try.ntmps59 rfl fun W A => ?_
  refine Wp.seq ?_
  refine Wp.reg ?_
  refine Sq.v (r_asg (look_int 0)) rfl rfl rfl ?_
  refine Sq.v (r_asg (look_int 0)) rfl rfl rfl ?_
  refine Sq.nil ?_
  refine To.next ?_
  refine Wp.seq ?_
  refine Wp.reg ?_
  refine Sq.v (r_move (look_t rfl)) rfl rfl rfl ?_
  obtain ⟨y1, hy1, h⟩ := bind_some h
  refine Sq.v (r_quo (look_t rfl) (look_int 128) (divM_some hy1)) rfl rfl rfl ?_
  refine Sq.v (r_move (look_t rfl)) rfl rfl rfl ?_
  obtain ⟨y2, hy2, h⟩ := bind_some h
  refine Sq.v (r_rem (look_t rfl) (look_int 128) (modM_some hy2)) rfl rfl rfl ?_
  refine Sq.v (r_sub (look_int 127) (look_t rfl)) rfl rfl rfl ?_
  refine Sq.v (r_asg (look_t rfl)) rfl rfl rfl ?_
  refine Sq.v (r_asg (look_t rfl)) rfl rfl rfl ?_
  refine Sq.nil ?_
  refine To.next ?_
  refine Wp.ret ?_
  replace h := some_in h
  subst h
  exact To.end2 rfl (rv_t rfl) (rv_t rfl)
set_option maxHeartbeats 2000000 in
theorem C_value_Bit {x0 : T_api_Value} {x1 : Int} {r : Bool} (h : L_value_Bit x0 x1 = some r) : Meets Try.prog 90 [VP.of (x0), VP.of (x1)] (VP.of (r)) := by
  unfold L_value_Bit at h
  refine Meets.of Try.func90 rfl Try.ntmps90 rfl fun W A => ?_
  refine Wp.seq ?_
  refine Wp.reg ?_
  refine Sq.box (z := (x0 : T_api_Value)) (look_t rfl) rfl fun p1 => ?_
  refine Sq.v (r_asg (look_bool false)) rfl rfl rfl ?_
  refine Sq.nil ?_
  refine To.next ?_
  refine Wp.seq ?_
  refine Wp.reg ?_
  refine Sq.v (r_move (look_t rfl)) rfl rfl rfl ?_
  refine Sq.v (r_geq (look_t rfl) (look_int 0)) rfl rfl rfl ?_
  refine Sq.v (r_move (look_t rfl)) rfl rfl rfl ?_
  refine Sq.g (fun hb => r_move (look_t rfl)) rfl rfl rfl rfl rfl ?_
  refine Sq.g (fun hb => r_lss (look_tc rfl hb) (look_int 128)) rfl rfl rfl rfl rfl ?_
  refine Sq.v (r_and (look_t rfl) (look_t rfl) (fun h => h)) rfl rfl rfl ?_
  refine Sq.v (r_move (look_t rfl)) rfl rfl rfl ?_
  refine Sq.g (fun hb => r_load (i := 0) (Lens.id T_api_Value) (r := x0) ty24 (look_t rfl) rfl rfl rfl) rfl rfl rfl rfl rfl ?_
  refine Sq.g (fun hb => r_move (look_t rfl)) rfl rfl rfl rfl rfl ?_
  obtain ⟨y1, hy1, h⟩ := bind_some h
  refine Sq.g (fun hb => r_call en112 (C_value_Right (condM_some hy1 hb)) ⟨look_tc rfl hb, look_tc rfl hb, trivial⟩) rfl rfl rfl rfl rfl ?_
  refine Sq.g (fun hb => r_field le_T_api_Value_Lo fv24_1 ty22 rfl (look_tc rfl hb) rfl rfl) rfl rfl rfl rfl rfl ?_
  refine Sq.g (fun hb => r_and64 (look_tc rfl hb) (look_u64 1 rfl)) rfl rfl rfl rfl rfl ?_
  refine Sq.g (fun hb => r_eql64 (look_tc rfl hb) (look_u64 1 rfl)) rfl rfl rfl rfl rfl ?_
  obtain ⟨z1, hz1, h⟩ := bind_some h
  refine Sq.v ((r_and (look_t rfl) (look_t rfl) (fun h => h)).as (some_in hz1)) rfl rfl rfl ?_
  refine Sq.v (r_asg (look_t rfl)) rfl rfl rfl ?_
  refine Sq.nil ?_
  refine To.next ?_
  refine Wp.ret ?_
  replace h := some_in h
  subst h
  exact To.end1 rfl (rv_t rfl)
set_option maxHeartbeats 2000000 in
theorem C_cube_has {x0 : Vector T_api_Value 4} {x1 : Int} {r : Bool} (h : L_cube_has x0 x1 = some r) : Meets Try.prog 54 [VP.of (x0), VP.of (x1)] (VP.of (r)) := by
  unfold L_cube_has at h
  refine Meets.of Try.func54 rfl Try.ntmps54 rfl fun W A => ?_
  refine Wp.seq ?_
  refine Wp.reg ?_
  refine Sq.box (z := (x0 : Vector T_api_Value 4)) (look_t rfl) rfl fun p1 => ?_
  refine Sq.v (r_asg (look_bool false)) rfl rfl rfl ?_
  refine Sq.nil ?_
  refine To.next ?_
  refine Wp.seq ?_
  refine Wp.reg ?_
  refine Sq.v (r_move (look_t rfl)) rfl rfl rfl ?_
  obtain ⟨y1, hy1, h⟩ := bind_some h
  refine Sq.v (r_call en59 (C_cube_place hy1) ⟨look_t rfl, trivial⟩) rfl rfl rfl ?_
  refine Sq.v (r_move (look_t rfl)) rfl rfl rfl ?_
  refine Sq.v (r_ext (look_t rfl) rfl) rfl rfl rfl ?_
  refine Sq.v (r_ext (look_t rfl) rfl) rfl rfl rfl ?_
  refine Sq.v (r_asg (look_t rfl)) rfl rfl rfl ?_
  refine Sq.v (r_asg (look_t rfl)) rfl rfl rfl ?_
  refine Sq.nil ?_
  refine To.next ?_
  refine Wp.seq ?_
  refine Wp.reg ?_
  refine Sq.v (r_move (look_t rfl)) rfl rfl rfl ?_
  obtain ⟨k1, hk1, h⟩ := bind_some h
  refine Sq.v (r_ia (k := k1) ar26 (look_t rfl) (look_t rfl) (idx_some hk1)) rfl rfl rfl ?_
  refine Sq.v (r_load (i := 0) ((Lens.id (Vector T_api_Value 4)).comp (Lens.idx (α := T_api_Value) 4 k1 (idx_some hk1).1)) (r := vget x0 k1) ty24 (look_t rfl) rfl rfl rfl) rfl rfl rfl ?_
  refine Sq.v (r_move (look_t rfl)) rfl rfl rfl ?_
  obtain ⟨y2, hy2, h⟩ := bind_some h
  refine Sq.v (r_call en90 (C_value_Bit hy2) ⟨look_t rfl, look_t rfl, trivial⟩) rfl rfl rfl ?_
  refine Sq.v (r_asg (look_t rfl)) rfl rfl rfl ?_
  refine Sq.nil ?_
  refine To.next ?_
  refine Wp.ret ?_
  replace h := some_in h
  subst h
  exact To.end1 rfl (rv_t rfl)
set_option maxHeartbeats 2000000 in
theorem C_value_Of {x0 : BitVec 64} {r : T_api_Value} (h : L_value_Of x0 = some r) : Meets Try.prog 61 [VP.of (x0)] (VP.of (r)) := by
  unfold L_value_Of at h
  refine Meets.of Try.func61 rfl Try.ntmps61 rfl fun W A => ?_
  refine Wp.seq ?_
  refine Wp.reg ?_
  refine Sq.alloc zr24 rfl fun p1 => ?_
  refine Sq.nil ?_
  refine To.next ?_
  refine Wp.seq ?_
  refine Wp.reg ?_
  refine Sq.v (r_move (look_t rfl)) rfl rfl rfl ?_
  refine Sq.v (r_build (b := { (default : T_api_Value) with f_Lo := x0 }) rfl bu24 zr24 (.cons le_T_api_Value_Lo rfl (look_t rfl) rfl (.nil))) rfl rfl rfl ?_
  refine Sq.store (i := 0) (Lens.id T_api_Value) (v := ({ (default : T_api_Value) with f_Lo := x0 } : T_api_Value)) (b' := ({ (default : T_api_Value) with f_Lo := x0 } : T_api_Value)) ty24 (look_t rfl) (look_t rfl) rfl rfl rfl ?_
  refine Sq.nil ?_
  refine To.next ?_
  refine Wp.ret ?_
  replace h := some_in h
  subst h
  exact To.end1 rfl (rv_c (i := 0) ty24 rfl rfl)
set_option maxHeartbeats 2000000 in
theorem C_value_Left {x0 : T_api_Value} {x1 : Int} {r : T_api_Value} (h : L_value_Left x0 x1 = some r) : Meets Try.prog 60 [VP.of (x0), VP.of (x1)] (VP.of (r)) := by
  unfold L_value_Left at h
  refine Meets.of Try.func60 rfl Try.ntmps60 rfl fun W A => ?_
  refine Wp.seq ?_
  refine Wp.reg ?_
  refine Sq.box (z := (x0 : T_api_Value)) (look_t rfl) rfl fun p1 => ?_
  refine Sq.alloc zr24 rfl fun p2 => ?_
  refine Sq.nil ?_
  refine To.next ?_
  refine Wp.seq ?_
  refine Wp.block ?_
  refine Wp.seq ?_
  refine Wp.reg ?_
  refine Sq.v (r_move (look_t rfl)) rfl rfl rfl ?_
  refine Sq.v (r_leq (look_t rfl) (look_int 0)) rfl rfl rfl ?_
  refine Sq.v (r_asg (look_t rfl)) rfl rfl rfl ?_
  refine Sq.nil ?_
  refine To.next ?_
  refine Wp.cond (look_t rfl) (fun hc => ?_) (fun hc => ?_)
  · replace h := cond_t hc h
    refine Wp.seq ?_
    refine Wp.reg ?_
    refine Sq.v (r_load (i := 1) (Lens.id T_api_Value) (r := x0) ty24 (look_t rfl) rfl rfl rfl) rfl rfl rfl ?_
    refine Sq.store (i := 0) (Lens.id T_api_Value) (v := (x0 : T_api_Value)) (b' := (x0 : T_api_Value)) ty24 (look_t rfl) (look_t rfl) rfl rfl rfl ?_
    refine Sq.nil ?_
    refine To.next ?_
    refine Wp.ret ?_
    refine To.bret ?_
    refine To.ret ?_
    replace h := some_in h
    subst h
    exact To.end1 rfl (rv_c (i := 0) ty24 rfl rfl)
  · replace h := cond_f hc h
    refine Wp.seq ?_
    refine Wp.reg ?_
    refine Sq.v (r_move (look_t rfl)) rfl rfl rfl ?_
    refine Sq.v (r_geq (look_t rfl) (look_int 64)) rfl rfl rfl ?_
    refine Sq.v (r_asg (look_t rfl)) rfl rfl rfl ?_
    refine Sq.nil ?_
    refine To.next ?_
    refine Wp.cond (look_t rfl) (fun hc => ?_) (fun hc => ?_)
    · replace h := cond_t hc h
      refine Wp.seq ?_
      refine Wp.reg ?_
      refine Sq.v (r_fa fd24_1 (look_t rfl)) rfl rfl rfl ?_
      refine Sq.v (r_load (i := 1) ((Lens.id T_api_Value).comp le_T_api_Value_Lo) (r := x0.f_Lo) ty22 (look_t rfl) rfl rfl rfl) rfl rfl rfl ?_
      refine Sq.v (r_move (look_t rfl)) rfl rfl rfl ?_
      refine Sq.v (r_sub (look_t rfl) (look_int 64)) rfl rfl rfl ?_
      refine Sq.v (r_ci64 Try.underlying3 Try.underlying117 (look_t rfl)) rfl rfl rfl ?_
      refine Sq.v (r_shl64 (look_t rfl) (look_t rfl)) rfl rfl rfl ?_
      obtain ⟨z1, hz1, h⟩ := bind_some h
      refine Sq.v ((r_build (b := { (default : T_api_Value) with f_Hi := x0.f_Lo <<< (BitVec.ofInt 64 (w64 (x1 - 64))).toNat }) rfl bu24 zr24 (.cons le_T_api_Value_Hi rfl (look_t rfl) rfl (.nil))).as (some_in hz1)) rfl rfl rfl ?_
      refine Sq.store (i := 0) (Lens.id T_api_Value) (v := (z1 : T_api_Value)) (b' := (z1 : T_api_Value)) ty24 (look_t rfl) (look_t rfl) rfl rfl rfl ?_
      refine Sq.nil ?_
      refine To.next ?_
      refine Wp.ret ?_
      refine To.bret ?_
      refine To.ret ?_
      replace h := some_in h
      subst h
      exact To.end1 rfl (rv_c (i := 0) ty24 rfl rfl)
    · replace h := cond_f hc h
      refine Wp.skip ?_
      refine To.bnorm ?_
      refine To.next ?_
      refine Wp.seq ?_
      refine Wp.reg ?_
      refine Sq.v (r_fa fd24_0 (look_t rfl)) rfl rfl rfl ?_
      refine Sq.v (r_load (i := 1) ((Lens.id T_api_Value).comp le_T_api_Value_Hi) (r := x0.f_Hi) ty22 (look_t rfl) rfl rfl rfl) rfl rfl rfl ?_
      refine Sq.v (r_move (look_t rfl)) rfl rfl rfl ?_
      refine Sq.v (r_ci64 Try.underlying3 Try.underlying117 (look_t rfl)) rfl rfl rfl ?_
      refine Sq.v (r_shl64 (look_t rfl) (look_t rfl)) rfl rfl rfl ?_
      refine Sq.v (r_fa fd24_1 (look_t rfl)) rfl rfl rfl ?_
      refine Sq.v (r_load (i := 1) ((Lens.id T_api_Value).comp le_T_api_Value_Lo) (r := x0.f_Lo) ty22 (look_t rfl) rfl rfl rfl) rfl rfl rfl ?_
      refine Sq.v (r_move (look_t rfl)) rfl rfl rfl ?_
      refine Sq.v (r_sub (look_int 64) (look_t rfl)) rfl rfl rfl ?_
      refine Sq.v (r_ci64 Try.underlying3 Try.underlying117 (look_t rfl)) rfl rfl rfl ?_
      refine Sq.v (r_shr64 (look_t rfl) (look_t rfl)) rfl rfl rfl ?_
      obtain ⟨z2, hz2, h⟩ := bind_some h
      refine Sq.v ((r_or64 (look_t rfl) (look_t rfl)).as (some_in hz2)) rfl rfl rfl ?_
      refine Sq.v (r_fa fd24_1 (look_t rfl)) rfl rfl rfl ?_
      refine Sq.v (r_load (i := 1) ((Lens.id T_api_Value).comp le_T_api_Value_Lo) (r := x0.f_Lo) ty22 (look_t rfl) rfl rfl rfl) rfl rfl rfl ?_
      refine Sq.v (r_move (look_t rfl)) rfl rfl rfl ?_
      refine Sq.v (r_ci64 Try.underlying3 Try.underlying117 (look_t rfl)) rfl rfl rfl ?_
      refine Sq.v (r_shl64 (look_t rfl) (look_t rfl)) rfl rfl rfl ?_
      obtain ⟨z3, hz3, h⟩ := bind_some h
      refine Sq.v ((r_build (b := { f_Hi := z2, f_Lo := x0.f_Lo <<< (BitVec.ofInt 64 x1).toNat : T_api_Value }) rfl bu24 zr24 (.cons le_T_api_Value_Hi rfl (look_t rfl) rfl (.cons le_T_api_Value_Lo rfl (look_t rfl) rfl (.nil)))).as (some_in hz3)) rfl rfl rfl ?_
      refine Sq.store (i := 0) (Lens.id T_api_Value) (v := (z3 : T_api_Value)) (b' := (z3 : T_api_Value)) ty24 (look_t rfl) (look_t rfl) rfl rfl rfl ?_
      refine Sq.nil ?_
      refine To.next ?_
      refine Wp.ret ?_
      replace h := some_in h
      subst h
      exact To.end1 rfl (rv_c (i := 0) ty24 rfl rfl)
set_option maxHeartbeats 2000000 in
theorem C_cube_Fix {x0 : T_cube_Cube} {x1 : Int} {x2 : Bool} {r : T_cube_Cube} (h : L_cube_Fix x0 x1 x2 = some r) : Meets Try.prog 21 [VP.of (x0), VP.of (x1), VP.of (x2)] (VP.of (r)) := by
  unfold L_cube_Fix at h
  refine Meets.of Try.func21 rfl Try.ntmps21 rfl fun W A => ?_
  refine Wp.seq ?_
  refine Wp.reg ?_
  refine Sq.box (z := (x0 : T_cube_Cube)) (look_t rfl) rfl fun p1 => ?_
  refine Sq.alloc zr28 rfl fun p2 => ?_
  refine Sq.nil ?_
  refine To.next ?_
  refine Wp.seq ?_
  refine Wp.seq ?_
  refine Wp.reg ?_
  refine Sq.v (r_move (look_t rfl)) rfl rfl rfl ?_
  refine Sq.v (r_lss (look_t rfl) (look_int 0)) rfl rfl rfl ?_
  refine Sq.v (r_move (look_t rfl)) rfl rfl rfl ?_
  refine Sq.g (fun hb => r_move (look_t rfl)) rfl rfl rfl rfl rfl ?_
  refine Sq.g (fun hb => r_geq (look_tc rfl hb) (look_int 512)) rfl rfl rfl rfl rfl ?_
  refine Sq.v (r_or (look_t rfl) (look_t rfl) (fun h => h)) rfl rfl rfl ?_
  refine Sq.v (r_move (look_t rfl)) rfl rfl rfl ?_
  refine Sq.g (fun hb => r_fa fd28_1 (look_t rfl)) rfl rfl rfl rfl rfl ?_
  refine Sq.g (fun hb => r_load (i := 1) ((Lens.id T_cube_Cube).comp le_T_cube_Cube_Mask) (r := x0.f_Mask) ty26 (look_tc rfl hb) rfl rfl rfl) rfl rfl rfl rfl rfl ?_
  refine Sq.g (fun hb => r_move (look_t rfl)) rfl rfl rfl rfl rfl ?_
  obtain ⟨y1, hy1, h⟩ := bind_some h
  refine Sq.g (fun hb => r_call en54 (C_cube_has (condM_some hy1 hb)) ⟨look_tc rfl hb, look_tc rfl hb, trivial⟩) rfl rfl rfl rfl rfl ?_
  refine Sq.v (r_or (look_t rfl) (look_t rfl) (fun h => h)) rfl rfl rfl ?_
  refine Sq.nil ?_
  refine To.next ?_
  refine Wp.cond (look_t rfl) (fun hc => ?_) (fun hc => ?_)
  · replace h := cond_t hc h
    refine Wp.seq ?_
    refine Wp.reg ?_
    refine Sq.v (r_load (i := 1) (Lens.id T_cube_Cube) (r := x0) ty28 (look_t rfl) rfl rfl rfl) rfl rfl rfl ?_
    refine Sq.store (i := 0) (Lens.id T_cube_Cube) (v := (x0 : T_cube_Cube)) (b' := (x0 : T_cube_Cube)) ty28 (look_t rfl) (look_t rfl) rfl rfl rfl ?_
    refine Sq.nil ?_
    refine To.next ?_
    refine Wp.ret ?_
    refine To.ret ?_
    replace h := some_in h
    subst h
    exact To.end1 rfl (rv_c (i := 0) ty28 rfl rfl)
  · replace h := cond_f hc h
    refine Wp.skip ?_
    refine To.next ?_
    refine Wp.seq ?_
    refine Wp.reg ?_
    refine Sq.v (r_move (look_t rfl)) rfl rfl rfl ?_
    obtain ⟨y2, hy2, h⟩ := bind_some h
    refine Sq.v (r_call en59 (C_cube_place hy2) ⟨look_t rfl, trivial⟩) rfl rfl rfl ?_
    refine Sq.v (r_move (look_t rfl)) rfl rfl rfl ?_
    refine Sq.v (r_ext (look_t rfl) rfl) rfl rfl rfl ?_
    refine Sq.v (r_ext (look_t rfl) rfl) rfl rfl rfl ?_
    refine Sq.v (r_asg (look_t rfl)) rfl rfl rfl ?_
    refine Sq.v (r_asg (look_t rfl)) rfl rfl rfl ?_
    refine Sq.nil ?_
    refine To.next ?_
    refine Wp.seq ?_
    refine Wp.reg ?_
    obtain ⟨y3, hy3, h⟩ := bind_some h
    refine Sq.v (r_call en61 (C_value_Of hy3) ⟨look_u64 1 rfl, trivial⟩) rfl rfl rfl ?_
    refine Sq.v (r_move (look_t rfl)) rfl rfl rfl ?_
    obtain ⟨y4, hy4, h⟩ := bind_some h
    refine Sq.v (r_call en60 (C_value_Left hy4) ⟨look_t rfl, look_t rfl, trivial⟩) rfl rfl rfl ?_
    refine Sq.alloc zr24 rfl fun p3 => ?_
    refine Sq.store (i := 0) (Lens.id T_api_Value) (v := (y4 : T_api_Value)) (b' := (y4 : T_api_Value)) ty24 (look_t rfl) (look_t rfl) rfl rfl rfl ?_
    refine Sq.nil ?_
    refine To.next ?_
    refine Wp.seq ?_
    obtain ⟨k1, hk1, h⟩ := bind_some h
    obtain ⟨y5, hy5, h⟩ := bind_some h
    obtain ⟨k2, hk2, h⟩ := bind_some h
    refine Wp.draw mixed 9 [some 31, some 32, some 33, some 34, some 35, some 36, some 37, some 38, some 39] [[], [], [], [1, 2], [3], [], [4, 5], [], [0, 7]] [.val (VP.of (y2.1)), .val (VP.of (y2.1)), .val (VP.eq (.pointer (some ⟨p1, 0 + 8, none⟩))), .val (VP.eq (.pointer (some ⟨p1, 0 + 8 + k1 * 2, none⟩))), .val (VP.of (vget x0.f_Mask k1)), .val (VP.of (y4)), .val (VP.of (y5)), .val (VP.eq (.pointer (some ⟨p1, 0 + 8, none⟩))), .val (VP.eq (.pointer (some ⟨p1, 0 + 8 + k2 * 2, none⟩)))] [false, false, false, false, false, false, false, false, false] (by kernel_rfl) rfl rfl rfl (fun ps1 => ⟨fun L' hL => HO.v (r_move (look_t rfl)) rfl, fun L' hL => HO.v (r_move (look_t rfl)) rfl, fun L' hL => HO.v (r_fa fd28_1 (look_t rfl)) rfl, fun L' hL => HO.v (r_ia (k := k1) ar26 (look_t rfl) (look_t rfl) (idx_some hk1)) rfl, fun L' hL => HO.v (r_load (i := 2) (((Lens.id T_cube_Cube).comp le_T_cube_Cube_Mask).comp (Lens.idx (α := T_api_Value) 4 k1 (idx_some hk1).1)) (r := vget x0.f_Mask k1) ty24 (look_t rfl) (hL _ _ rfl rfl) rfl rfl) rfl, fun L' hL => HO.v (r_load (i := 0) (Lens.id T_api_Value) (r := y4) ty24 (look_t rfl) (hL _ _ rfl rfl) rfl rfl) rfl, fun L' hL => HO.v (r_call en58 (C_value_Or hy5) ⟨look_t rfl, look_t rfl, trivial⟩) rfl, fun L' hL => HO.v (r_fa fd28_1 (look_t rfl)) rfl, fun L' hL => HO.v (r_ia (k := k2) ar26 (look_t rfl) (look_t rfl) (idx_some hk2)) rfl, trivial⟩) fun ps1 => ?_
    refine Sq.store (i := 2) (((Lens.id T_cube_Cube).comp le_T_cube_Cube_Mask).comp (Lens.idx (α := T_api_Value) 4 k2 (idx_some hk2).1)) (v := (y5 : T_api_Value)) (b' := ({ x0 with f_Mask := vset x0.f_Mask k2 y5 } : T_cube_Cube)) ty24 (look_t rfl) (look_t rfl) rfl rfl rfl ?_
    refine Sq.nil ?_
    refine To.next ?_
    refine Wp.seq ?_
    refine Wp.seq ?_
    refine Wp.reg ?_
    refine Sq.v (r_move (look_t rfl)) rfl rfl rfl ?_
    refine Sq.nil ?_
    refine To.next ?_
    obtain ⟨m1, hm1, h⟩ := bind_some h
    refine Wp.condM (γ := Unit) (fun g1 => [(0, VP.of (x0)), (1, VP.of (x1)), (2, VP.of (x2)), (3, VP.eq (.pointer (some ⟨p1, 0, none⟩))), (6, VP.eq (.pointer (some ⟨p2, 0, none⟩))), (7, VP.of (y2.1)), (8, VP.of (y2.2)), (9, VP.eq (.pointer (some ⟨p3, 0, none⟩))), (21, VP.of (((decide (x1 < 0)) || (decide (x1 ≥ 512))) || y1)), (40, VP.of (x2))]) (fun g1 => [⟨some p3, .var (y4 : T_api_Value)⟩, ⟨some p2, .var ((default : T_cube_Cube) : T_cube_Cube)⟩, ⟨some p1, .var (m1 : T_cube_Cube)⟩]) (look_t rfl) (fun g1 => ?_) (fun hm hc => ?_) (fun hm hc => ?_)
    · clear hm1
      refine To.next ?_
      refine Wp.seq ?_
      refine Wp.reg ?_
      refine Sq.v (r_load (i := 2) (Lens.id T_cube_Cube) (r := m1) ty28 (look_t rfl) rfl rfl rfl) rfl rfl rfl ?_
      refine Sq.store (i := 1) (Lens.id T_cube_Cube) (v := (m1 : T_cube_Cube)) (b' := (m1 : T_cube_Cube)) ty28 (look_t rfl) (look_t rfl) rfl rfl rfl ?_
      refine Sq.nil ?_
      refine To.next ?_
      refine Wp.ret ?_
      replace h := some_in h
      subst h
      exact To.end1 rfl (rv_c (i := 1) ty28 rfl rfl)
    · have h := cond_t hc hm1
      obtain ⟨k3, hk3, h⟩ := bind_some h
      obtain ⟨y6, hy6, h⟩ := bind_some h
      obtain ⟨k4, hk4, h⟩ := bind_some h
      refine Wp.draw mixed 9 [some 41, some 42, some 43, some 44, some 45, some 46, some 47, some 48, some 49] [[], [], [], [1, 2], [3], [], [4, 5], [], [0, 7]] [.val (VP.of (y2.1)), .val (VP.of (y2.1)), .val (VP.eq (.pointer (some ⟨p1, 0 + 0, none⟩))), .val (VP.eq (.pointer (some ⟨p1, 0 + 0 + k3 * 2, none⟩))), .val (VP.of (vget (({ x0 with f_Mask := vset x0.f_Mask k2 y5 }).f_Value) k3)), .val (VP.of (y4)), .val (VP.of (y6)), .val (VP.eq (.pointer (some ⟨p1, 0 + 0, none⟩))), .val (VP.eq (.pointer (some ⟨p1, 0 + 0 + k4 * 2, none⟩)))] [false, false, false, false, false, false, false, false, false] (by kernel_rfl) rfl rfl rfl (fun ps2 => ⟨fun L' hL => HO.v (r_move (look_t rfl)) rfl, fun L' hL => HO.v (r_move (look_t rfl)) rfl, fun L' hL => HO.v (r_fa fd28_0 (look_t rfl)) rfl, fun L' hL => HO.v (r_ia (k := k3) ar26 (look_t rfl) (look_t rfl) (idx_some hk3)) rfl, fun L' hL => HO.v (r_load (i := 2) (((Lens.id T_cube_Cube).comp le_T_cube_Cube_Value).comp (Lens.idx (α := T_api_Value) 4 k3 (idx_some hk3).1)) (r := vget (({ x0 with f_Mask := vset x0.f_Mask k2 y5 }).f_Value) k3) ty24 (look_t rfl) (hL _ _ rfl rfl) rfl rfl) rfl, fun L' hL => HO.v (r_load (i := 0) (Lens.id T_api_Value) (r := y4) ty24 (look_t rfl) (hL _ _ rfl rfl) rfl rfl) rfl, fun L' hL => HO.v (r_call en58 (C_value_Or hy6) ⟨look_t rfl, look_t rfl, trivial⟩) rfl, fun L' hL => HO.v (r_fa fd28_0 (look_t rfl)) rfl, fun L' hL => HO.v (r_ia (k := k4) ar26 (look_t rfl) (look_t rfl) (idx_some hk4)) rfl, trivial⟩) fun ps2 => ?_
      obtain ⟨z1, hz1, h⟩ := bind_some h
      refine Sq.store (i := 2) (((Lens.id T_cube_Cube).comp le_T_cube_Cube_Value).comp (Lens.idx (α := T_api_Value) 4 k4 (idx_some hk4).1)) (v := (y6 : T_api_Value)) (b' := (z1 : T_cube_Cube)) ty24 (look_t rfl) (look_t rfl) rfl rfl (some_in hz1) ?_
      refine Sq.nil ?_
      replace h := some_in h
      subst h
      exact To.meet 0 rfl (.same rfl (.same rfl (.same rfl (.same rfl (.same rfl (.same rfl (.same rfl (.same rfl (.same rfl (.same rfl .nil)))))))))) (hm ())
    · have h := cond_f hc hm1
      refine Wp.skip ?_
      replace h := some_in h
      subst h
      exact To.meet 0 rfl (.same rfl (.same rfl (.same rfl (.same rfl (.same rfl (.same rfl (.same rfl (.same rfl (.same rfl (.same rfl .nil)))))))))) (hm ())
set_option maxHeartbeats 2000000 in
theorem C_cube_Minus {x0 : T_cube_Cube} {x1 : T_cube_Cube} {r : (List T_cube_Cube)} (h : L_cube_Minus x0 x1 = some r) : Meets Try.prog 15 [VP.of (x0), VP.of (x1)] (VP.of (r)) := by
  unfold L_cube_Minus at h
  refine Meets.of Try.func15 rfl Try.ntmps15 rfl fun W A => ?_
  refine Wp.seq ?_
  refine Wp.reg ?_
  refine Sq.box (z := (x0 : T_cube_Cube)) (look_t rfl) rfl fun p1 => ?_
  refine Sq.box (z := (x1 : T_cube_Cube)) (look_t rfl) rfl fun p2 => ?_
  refine Sq.v (r_asg (look_nil (α := T_cube_Cube))) rfl rfl rfl ?_
  refine Sq.nil ?_
  refine To.next ?_
  refine Wp.seq ?_
  refine Wp.seq ?_
  refine Wp.reg ?_
  refine Sq.v (r_load (i := 1) (Lens.id T_cube_Cube) (r := x0) ty28 (look_t rfl) rfl rfl rfl) rfl rfl rfl ?_
  refine Sq.v (r_load (i := 0) (Lens.id T_cube_Cube) (r := x1) ty28 (look_t rfl) rfl rfl rfl) rfl rfl rfl ?_
  obtain ⟨y1, hy1, h⟩ := bind_some h
  refine Sq.v (r_call en18 (C_cube_Meet hy1) ⟨look_t rfl, look_t rfl, trivial⟩) rfl rfl rfl ?_
  refine Sq.v (r_move (look_t rfl)) rfl rfl rfl ?_
  refine Sq.v (r_ext (look_t rfl) rfl) rfl rfl rfl ?_
  refine Sq.v (r_ext (look_t rfl) rfl) rfl rfl rfl ?_
  refine Sq.alloc zr28 rfl fun p3 => ?_
  refine Sq.store (i := 0) (Lens.id T_cube_Cube) (v := (y1.1 : T_cube_Cube)) (b' := (y1.1 : T_cube_Cube)) ty28 (look_t rfl) (look_t rfl) rfl rfl rfl ?_
  refine Sq.v (r_asg (look_t rfl)) rfl rfl rfl ?_
  refine Sq.nil ?_
  refine To.next ?_
  refine Wp.seq ?_
  refine Wp.reg ?_
  refine Sq.v (r_move (look_t rfl)) rfl rfl rfl ?_
  refine Sq.v (r_not (look_t rfl)) rfl rfl rfl ?_
  refine Sq.nil ?_
  refine To.next ?_
  refine Wp.cond (look_t rfl) (fun hc => ?_) (fun hc => ?_)
  · replace h := cond_t hc h
    refine Wp.seq ?_
    refine Wp.reg ?_
    refine Sq.v (r_load (i := 2) (Lens.id T_cube_Cube) (r := x0) ty28 (look_t rfl) rfl rfl rfl) rfl rfl rfl ?_
    refine Sq.v (r_bsl (r := [x0]) Try.underlying31 ty28 zr28 rfl rfl (.cons (by simp) (look_t rfl) (.nil))) rfl rfl rfl ?_
    refine Sq.v (r_asg (look_t rfl)) rfl rfl rfl ?_
    refine Sq.nil ?_
    refine To.next ?_
    refine Wp.ret ?_
    refine To.ret ?_
    replace h := some_in h
    subst h
    exact To.end1 rfl (rv_t rfl)
  · replace h := cond_f hc h
    refine Wp.skip ?_
    refine To.next ?_
    refine Wp.seq ?_
    refine Wp.reg ?_
    refine Sq.v (r_fa fd28_1 (look_t rfl)) rfl rfl rfl ?_
    refine Sq.v (r_load (i := 1) ((Lens.id T_cube_Cube).comp le_T_cube_Cube_Mask) (r := x1.f_Mask) ty26 (look_t rfl) rfl rfl rfl) rfl rfl rfl ?_
    refine Sq.v (r_fa fd28_1 (look_t rfl)) rfl rfl rfl ?_
    refine Sq.v (r_load (i := 2) ((Lens.id T_cube_Cube).comp le_T_cube_Cube_Mask) (r := x0.f_Mask) ty26 (look_t rfl) rfl rfl rfl) rfl rfl rfl ?_
    obtain ⟨y2, hy2, h⟩ := bind_some h
    refine Sq.v (r_call en52 (C_cube_combined hy2) ⟨look_t rfl, look_t rfl, look_fn2 en53 (fun _ _ _ => C_cube_without), trivial⟩) rfl rfl rfl ?_
    refine Sq.alloc zr26 rfl fun p4 => ?_
    refine Sq.store (i := 0) (Lens.id (Vector T_api_Value 4)) (v := (y2 : Vector T_api_Value 4)) (b' := (y2 : Vector T_api_Value 4)) ty26 (look_t rfl) (look_t rfl) rfl rfl rfl ?_
    refine Sq.nil ?_
    refine To.next ?_
    refine Wp.seq ?_
    refine Wp.reg ?_
    refine Sq.own (α := T_cube_Cube) 28 ?_
    refine Sq.v (r_asg look_own) rfl rfl rfl ?_
    refine Sq.nil ?_
    refine To.next ?_
    refine Wp.seq ?_
    refine Wp.seq ?_
    refine Wp.reg ?_
    refine Sq.v (r_move (look_int 0)) rfl rfl rfl ?_
    refine Sq.nil ?_
    refine To.next ?_
    refine Wp.block ?_
    obtain ⟨e1, hl, h⟩ := bind_some h
    refine Wp.loopG (σ := Int × (List T_cube_Cube) × T_cube_Cube) (ε := (Int × Bool × (List T_cube_Cube) × T_cube_Cube)) (γ := (Option Nat × Nat)) (δ := (Option Nat × Nat)) hl (fun s1 g1 => [(0, VP.of (x0)), (1, VP.of (x1)), (2, VP.eq (.pointer (some ⟨p1, 0, none⟩))), (3, VP.eq (.pointer (some ⟨p2, 0, none⟩))), (4, VP.of ([] : List T_cube_Cube)), (6, VP.of (y1.2)), (7, VP.eq (.pointer (some ⟨p4, 0, none⟩))), (8, VP.eq (slv g1.1 s1.2.1.length g1.2)), (17, VP.of (!y1.2)), (25, VP.of (s1.1))]) (fun s1 g1 => [⟨g1.1, .row 28 (s1.2.1 : List T_cube_Cube) g1.2⟩, ⟨some p4, .var (y2 : Vector T_api_Value 4)⟩, ⟨some p3, .var (y1.1 : T_cube_Cube)⟩, ⟨some p2, .var (x1 : T_cube_Cube)⟩, ⟨some p1, .var (s1.2.2 : T_cube_Cube)⟩]) (fun q1 => Exit.exit 0) (fun q1 g1 => [(0, VP.of (x0)), (1, VP.of (x1)), (2, VP.eq (.pointer (some ⟨p1, 0, none⟩))), (3, VP.eq (.pointer (some ⟨p2, 0, none⟩))), (4, VP.of ([] : List T_cube_Cube)), (6, VP.of (y1.2)), (7, VP.eq (.pointer (some ⟨p4, 0, none⟩))), (8, VP.eq (slv g1.1 q1.2.2.1.length g1.2)), (17, VP.of (!y1.2)), (25, VP.of (q1.1)), (26, VP.of (q1.2.1))]) (fun q1 g1 => [⟨g1.1, .row 28 (q1.2.2.1 : List T_cube_Cube) g1.2⟩, ⟨some p4, .var (y2 : Vector T_api_Value 4)⟩, ⟨some p3, .var (y1.1 : T_cube_Cube)⟩, ⟨some p2, .var (x1 : T_cube_Cube)⟩, ⟨some p1, .var (q1.2.2.2 : T_cube_Cube)⟩]) (none, 0) rfl (.same rfl (.same rfl (.same rfl (.same rfl (.same rfl (.same rfl (.same rfl (.same rfl (.same rfl (.same rfl .nil)))))))))) (fun s1 r h g1 => ?_) (fun g1 => ?_)
    · clear hl
      refine Wp.seq ?_
      refine Wp.reg ?_
      refine Sq.v (r_lss (look_t rfl) (look_int 512)) rfl rfl rfl ?_
      refine Sq.nil ?_
      refine To.next ?_
      refine Wp.seq ?_
      refine Wp.cond (look_t rfl) (fun hc => ?_) (fun hc => ?_)
      · replace h := cond_t hc h
        refine Wp.skip ?_
        refine To.next ?_
        refine Wp.seq ?_
        refine Wp.block ?_
        refine Wp.seq ?_
        refine Wp.reg ?_
        refine Sq.v (r_move (look_t rfl)) rfl rfl rfl ?_
        refine Sq.v (r_asg (look_t rfl)) rfl rfl rfl ?_
        refine Sq.nil ?_
        refine To.next ?_
        refine Wp.seq ?_
        refine Wp.reg ?_
        refine Sq.v (r_load (i := 1) (Lens.id (Vector T_api_Value 4)) (r := y2) ty26 (look_t rfl) rfl rfl rfl) rfl rfl rfl ?_
        refine Sq.v (r_move (look_t rfl)) rfl rfl rfl ?_
        obtain ⟨y3, hy3, h⟩ := bind_some h
        refine Sq.v (r_call en54 (C_cube_has hy3) ⟨look_t rfl, look_t rfl, trivial⟩) rfl rfl rfl ?_
        refine Sq.nil ?_
        refine To.next ?_
        obtain ⟨m1, hm1, h⟩ := bind_some h
        refine Wp.condM (γ := (Option Nat × Nat)) (fun g2 => [(0, VP.of (x0)), (1, VP.of (x1)), (2, VP.eq (.pointer (some ⟨p1, 0, none⟩))), (3, VP.eq (.pointer (some ⟨p2, 0, none⟩))), (4, VP.of ([] : List T_cube_Cube)), (6, VP.of (y1.2)), (7, VP.eq (.pointer (some ⟨p4, 0, none⟩))), (8, VP.eq (slv g2.1 m1.1.length g2.2)), (9, VP.of (s1.1)), (17, VP.of (!y1.2)), (25, VP.of (s1.1)), (26, VP.of (decide (s1.1 < 512))), (30, VP.of (y3))]) (fun g2 => [⟨g2.1, .row 28 (m1.1 : List T_cube_Cube) g2.2⟩, ⟨some p4, .var (y2 : Vector T_api_Value 4)⟩, ⟨some p3, .var (y1.1 : T_cube_Cube)⟩, ⟨some p2, .var (x1 : T_cube_Cube)⟩, ⟨some p1, .var (m1.2 : T_cube_Cube)⟩]) (look_t rfl) (fun g2 => ?_) (fun hm hc => ?_) (fun hm hc => ?_)
        · clear hm1
          refine To.bnorm ?_
          refine To.next ?_
          refine Wp.reg ?_
          refine Sq.v (r_add (look_t rfl) (look_int 1)) rfl rfl rfl ?_
          refine Sq.v (r_move (look_t rfl)) rfl rfl rfl ?_
          refine Sq.nil ?_
          replace h := some_in h
          subst h
          exact To.roundG (g2.1, g2.2) 0 rfl (.same rfl (.same rfl (.same rfl (.same rfl (.same rfl (.same rfl (.same rfl (.same rfl (.same rfl (.same rfl .nil))))))))))
        · have h := cond_t hc hm1
          refine Wp.seq ?_
          obtain ⟨y4, hy4, h⟩ := bind_some h
          obtain ⟨y5, hy5, h⟩ := bind_some h
          refine Wp.draw mixed 10 [some 31, some 32, some 33, some 34, some 35, some 36, some 37, some 38, some 39, some 40] [[], [], [], [], [3], [], [4, 5], [6], [1, 2, 7], [8]] [.val (VP.eq (slv g1.1 s1.2.1.length g1.2)), .val (VP.of (s1.2.2)), .val (VP.of (s1.1)), .val (VP.eq (.pointer (some ⟨p2, 0 + 0, none⟩))), .val (VP.of (x1.f_Value)), .val (VP.of (s1.1)), .val (VP.of (y4)), .val (VP.of (!y4)), .val (VP.of (y5)), .val (VP.of ([y5]))] [false, false, false, false, false, false, false, false, false, false] (by kernel_rfl) rfl rfl rfl (fun ps1 => ⟨fun L' hL => HO.v (r_move (look_t rfl)) rfl, fun L' hL => HO.v (r_load (i := 4) (Lens.id T_cube_Cube) (r := s1.2.2) ty28 (look_t rfl) (hL _ _ rfl rfl) rfl rfl) rfl, fun L' hL => HO.v (r_move (look_t rfl)) rfl, fun L' hL => HO.v (r_fa fd28_0 (look_t rfl)) rfl, fun L' hL => HO.v (r_load (i := 3) ((Lens.id T_cube_Cube).comp le_T_cube_Cube_Value) (r := x1.f_Value) ty26 (look_t rfl) (hL _ _ rfl rfl) rfl rfl) rfl, fun L' hL => HO.v (r_move (look_t rfl)) rfl, fun L' hL => HO.v (r_call en54 (C_cube_has hy4) ⟨look_t rfl, look_t rfl, trivial⟩) rfl, fun L' hL => HO.v (r_not (look_t rfl)) rfl, fun L' hL => HO.v (r_call en21 (C_cube_Fix hy5) ⟨look_t rfl, look_t rfl, look_t rfl, trivial⟩) rfl, fun L' hL => HO.v (r_bsl (r := [y5]) Try.underlying31 ty28 zr28 rfl rfl (.cons (by simp) (look_t rfl) (.nil))) rfl, trivial⟩) fun ps1 => ?_
          obtain ⟨y6, hy6, h⟩ := bind_some h
          refine Sq.app (i := 0) Try.underlying31 ty28 zr28 (bytes := 128) (by kernel_rfl) (look_t rfl) rfl (look_t rfl) hy6 rfl fun key1 cap1 => ?_
          refine Sq.v (r_asg (look_t rfl)) rfl rfl rfl ?_
          refine Sq.nil ?_
          refine To.next ?_
          obtain ⟨y7, hy7, h⟩ := bind_some h
          obtain ⟨y8, hy8, h⟩ := bind_some h
          refine Wp.draw mixed 7 [some 42, some 43, some 44, some 45, some 46, some 47, some 48] [[], [], [], [2], [], [3, 4], [0, 1, 5]] [.val (VP.of (s1.2.2)), .val (VP.of (s1.1)), .val (VP.eq (.pointer (some ⟨p2, 0 + 0, none⟩))), .val (VP.of (x1.f_Value)), .val (VP.of (s1.1)), .val (VP.of (y7)), .val (VP.of (y8))] [false, false, false, false, false, false, false] (by kernel_rfl) rfl rfl rfl (fun ps2 => ⟨fun L' hL => HO.v (r_load (i := 4) (Lens.id T_cube_Cube) (r := s1.2.2) ty28 (look_t rfl) (hL _ _ rfl rfl) rfl rfl) rfl, fun L' hL => HO.v (r_move (look_t rfl)) rfl, fun L' hL => HO.v (r_fa fd28_0 (look_t rfl)) rfl, fun L' hL => HO.v (r_load (i := 3) ((Lens.id T_cube_Cube).comp le_T_cube_Cube_Value) (r := x1.f_Value) ty26 (look_t rfl) (hL _ _ rfl rfl) rfl rfl) rfl, fun L' hL => HO.v (r_move (look_t rfl)) rfl, fun L' hL => HO.v (r_call en54 (C_cube_has hy7) ⟨look_t rfl, look_t rfl, trivial⟩) rfl, fun L' hL => HO.v (r_call en21 (C_cube_Fix hy8) ⟨look_t rfl, look_t rfl, look_t rfl, trivial⟩) rfl, trivial⟩) fun ps2 => ?_
          refine Sq.store (i := 4) (Lens.id T_cube_Cube) (v := (y8 : T_cube_Cube)) (b' := (y8 : T_cube_Cube)) ty28 (look_t rfl) (look_t rfl) rfl rfl rfl ?_
          refine Sq.nil ?_
          replace h := some_in h
          subst h
          exact To.meet 0 rfl (.same rfl (.same rfl (.same rfl (.same rfl (.same rfl (.same rfl (.same rfl (.same rfl (.same rfl (.same rfl (.same rfl (.same rfl (.same rfl .nil))))))))))))) (hm (key1, cap1))
        · have h := cond_f hc hm1
          refine Wp.skip ?_
          replace h := some_in h
          subst h
          exact To.meet 0 rfl (.same rfl (.same rfl (.same rfl (.same rfl (.same rfl (.same rfl (.same rfl (.same rfl (.same rfl (.same rfl (.same rfl (.same rfl (.same rfl .nil))))))))))))) (hm (g1.1, g1.2))
      · replace h := cond_f hc h
        refine Wp.exit ?_
        refine To.exit ?_
        replace h := some_in h
        subst h
        exact To.leaveG (g1.1, g1.2) 0 rfl (by simp) rfl (.same rfl (.same rfl (.same rfl (.same rfl (.same rfl (.same rfl (.same rfl (.same rfl (.same rfl (.same rfl (.same rfl .nil)))))))))))
    · clear hl
      refine To.bexit ?_
      refine To.next ?_
      refine Wp.seq ?_
      refine Wp.reg ?_
      refine Sq.v (r_move (look_t rfl)) rfl rfl rfl ?_
      refine Sq.v (r_asg (look_t rfl)) rfl rfl rfl ?_
      refine Sq.nil ?_
      refine To.next ?_
      refine Wp.ret ?_
      refine To.freeze (α := T_cube_Cube) 0 4 rfl rfl ?_
      replace h := some_in h
      subst h
      exact To.end1 rfl (rv_t rfl)
end Go.Proofs.Ytabodolbdalimaa
