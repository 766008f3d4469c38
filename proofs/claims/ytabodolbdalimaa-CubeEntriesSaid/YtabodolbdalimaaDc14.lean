/-
  Printed by the decompiler (dec.py) out of the seat's translation. Each function meets its functional program. Conditions: none.
-/
import Derived.Test.YtabodolbdalimaaDc1
import Derived.Test.YtabodolbdalimaaDc4
import Derived.Test.YtabodolbdalimaaDc5
import Derived.Test.YtabodolbdalimaaDc7
import Derived.Test.YtabodolbdalimaaDc8
namespace Go.Proofs.Ytabodolbdalimaa
open Go Gv
set_option linter.unusedVariables false
set_option linter.unusedSimpArgs false
set_option maxRecDepth 100000
set_option maxHeartbeats 2000000 in
theorem C_cube_fixed {x0 : T_api_Match} {x1 : Int} {x2 : Int}  {r : T_api_Value} (h : L_cube_fixed x0 x1 x2 = some r) : Meets Try.prog 82 [VP.of (x0), VP.of (x1), VP.of (x2)] (VP.of (r)) := by
  unfold L_cube_fixed at h
  refine Meets.of Try.func82 rfl Try.ntmps82 rfl fun W A => ?_
  refine Wp.seq ?_
  refine Wp.reg ?_
  refine Sq.box (z := (x0 : T_api_Match)) (look_t rfl) rfl fun p1 => ?_
  refine Sq.alloc zr24 rfl fun p2 => ?_
  refine Sq.nil ?_
  refine To.next ?_
  refine Wp.seq ?_
  refine Wp.block ?_
  refine Wp.seq ?_
  refine Wp.reg ?_
  refine Sq.v (r_fa fd141_0 (look_t rfl)) rfl rfl rfl ?_
  refine Sq.v (r_load (i := 1) ((Lens.id T_api_Match).comp le_T_api_Match_Present) (r := x0.f_Present) ty4 (look_t rfl) rfl rfl rfl) rfl rfl rfl ?_
  refine Sq.v (r_not (look_t rfl)) rfl rfl rfl ?_
  refine Sq.v (r_asg (look_t rfl)) rfl rfl rfl ?_
  refine Sq.nil ?_
  refine To.next ?_
  refine Wp.cond (look_t rfl) (fun hc => ?_) (fun hc => ?_)
  · replace h := cond_t hc h
    refine Wp.seq ?_
    refine Wp.reg ?_
    refine Sq.v (r_build (b := (default : T_api_Value)) rfl bu24 zr24 (.nil)) rfl rfl rfl ?_
    refine Sq.store (i := 0) (Lens.id T_api_Value) (v := ((default : T_api_Value) : T_api_Value)) (b' := ((default : T_api_Value) : T_api_Value)) ty24 (look_t rfl) (look_t rfl) rfl rfl rfl ?_
    refine Sq.nil ?_
    refine To.next ?_
    refine Wp.ret ?_
    refine To.bret ?_
    refine To.ret ?_
    replace h := some_in h
    subst h
    exact To.end1 rfl (rv_c (i := 0) ty24 rfl rfl)
  · replace h := cond_f hc h
    refine Wp.seq ?_
    refine Wp.reg ?_
    refine Sq.v (r_move (look_t rfl)) rfl rfl rfl ?_
    refine Sq.v (r_eql (look_t rfl) (look_int 1)) rfl rfl rfl ?_
    refine Sq.v (r_asg (look_t rfl)) rfl rfl rfl ?_
    refine Sq.nil ?_
    refine To.next ?_
    refine Wp.cond (look_t rfl) (fun hc => ?_) (fun hc => ?_)
    · replace h := cond_t hc h
      refine Wp.seq ?_
      refine Wp.reg ?_
      refine Sq.v (r_move (look_t rfl)) rfl rfl rfl ?_
      obtain ⟨y1, hy1, h⟩ := bind_some h
      refine Sq.v (r_call en106 (C_value_Ones hy1) ⟨look_t rfl, trivial⟩) rfl rfl rfl ?_
      refine Sq.store (i := 0) (Lens.id T_api_Value) (v := (y1 : T_api_Value)) (b' := (y1 : T_api_Value)) ty24 (look_t rfl) (look_t rfl) rfl rfl rfl ?_
      refine Sq.nil ?_
      refine To.next ?_
      refine Wp.ret ?_
      refine To.bret ?_
      refine To.ret ?_
      replace h := some_in h
      subst h
      exact To.end1 rfl (rv_c (i := 0) ty24 rfl rfl)
    · replace h := cond_f hc h
      refine Wp.seq ?_
      refine Wp.reg ?_
      refine Sq.v (r_move (look_t rfl)) rfl rfl rfl ?_
      refine Sq.v (r_eql (look_t rfl) (look_int 2)) rfl rfl rfl ?_
      refine Sq.v (r_asg (look_t rfl)) rfl rfl rfl ?_
      refine Sq.nil ?_
      refine To.next ?_
      refine Wp.cond (look_t rfl) (fun hc => ?_) (fun hc => ?_)
      · replace h := cond_t hc h
        refine Wp.seq ?_
        refine Wp.reg ?_
        refine Sq.v (r_move (look_t rfl)) rfl rfl rfl ?_
        refine Sq.v (r_fa fd141_3 (look_t rfl)) rfl rfl rfl ?_
        refine Sq.v (r_load (i := 1) ((Lens.id T_api_Match).comp le_T_api_Match_Prefix) (r := x0.f_Prefix) ty3 (look_t rfl) rfl rfl rfl) rfl rfl rfl ?_
        obtain ⟨y2, hy2, h⟩ := bind_some h
        refine Sq.v (r_call en107 (C_value_Leading hy2) ⟨look_t rfl, look_t rfl, trivial⟩) rfl rfl rfl ?_
        refine Sq.store (i := 0) (Lens.id T_api_Value) (v := (y2 : T_api_Value)) (b' := (y2 : T_api_Value)) ty24 (look_t rfl) (look_t rfl) rfl rfl rfl ?_
        refine Sq.nil ?_
        refine To.next ?_
        refine Wp.ret ?_
        refine To.bret ?_
        refine To.ret ?_
        replace h := some_in h
        subst h
        exact To.end1 rfl (rv_c (i := 0) ty24 rfl rfl)
      · replace h := cond_f hc h
        refine Wp.skip ?_
        refine To.bnorm ?_
        refine To.next ?_
        refine Wp.seq ?_
        refine Wp.reg ?_
        refine Sq.v (r_fa fd141_2 (look_t rfl)) rfl rfl rfl ?_
        refine Sq.v (r_load (i := 1) ((Lens.id T_api_Match).comp le_T_api_Match_Mask) (r := x0.f_Mask) ty24 (look_t rfl) rfl rfl rfl) rfl rfl rfl ?_
        refine Sq.store (i := 0) (Lens.id T_api_Value) (v := (x0.f_Mask : T_api_Value)) (b' := (x0.f_Mask : T_api_Value)) ty24 (look_t rfl) (look_t rfl) rfl rfl rfl ?_
        refine Sq.nil ?_
        refine To.next ?_
        refine Wp.ret ?_
        replace h := some_in h
        subst h
        exact To.end1 rfl (rv_c (i := 0) ty24 rfl rfl)
set_option maxHeartbeats 2000000 in
theorem C_ref04_KeyBits {x0 : T_api_Schema} {x1 : T_api_Table} {x2 : Int}  {r : Int} (h : L_ref04_KeyBits x0 x1 x2 = some r) : Meets Try.prog 49 [VP.of (x0), VP.of (x1), VP.of (x2)] (VP.of (r)) := by
  unfold L_ref04_KeyBits at h
  refine Meets.of Try.func49 rfl Try.ntmps49 rfl fun W A => ?_
  refine Wp.seq ?_
  refine Wp.reg ?_
  refine Sq.box (z := (x0 : T_api_Schema)) (look_t rfl) rfl fun p1 => ?_
  refine Sq.box (z := (x1 : T_api_Table)) (look_t rfl) rfl fun p2 => ?_
  refine Sq.v (r_asg (look_int 0)) rfl rfl rfl ?_
  refine Sq.nil ?_
  refine To.next ?_
  refine Wp.seq ?_
  obtain ⟨k1, hk1, h⟩ := bind_some h
  obtain ⟨y1, hy1, h⟩ := bind_some h
  refine Wp.draw mixed 8 [some 7, some 8, some 9, some 10, some 11, some 12, some 13, some 14] [[], [], [1], [], [2, 3], [4], [5], [0, 6]] [.val (VP.of (x0)), .val (VP.eq (.pointer (some ⟨p2, 0 + 2, none⟩))), .val (VP.of (x1.f_Keys)), .val (VP.of (x2)), .val (VP.ptr (lget x1.f_Keys k1)), .val (VP.ptr ((lget x1.f_Keys k1).f_Field)), .val (VP.of ((lget x1.f_Keys k1).f_Field)), .val (VP.of (y1))] [false, false, false, false, false, false, false, false] (by kernel_rfl) rfl rfl rfl (fun ps1 => ⟨fun L' hL => HO.v (r_load (i := 1) (Lens.id T_api_Schema) (r := x0) ty84 (look_t rfl) (hL _ _ rfl rfl) rfl rfl) rfl, fun L' hL => HO.v (r_fa fd97_2 (look_t rfl)) rfl, fun L' hL => HO.v (r_load (i := 0) ((Lens.id T_api_Table).comp le_T_api_Table_Keys) (r := x1.f_Keys) ty95 (look_t rfl) (hL _ _ rfl rfl) rfl rfl) rfl, fun L' hL => HO.v (r_move (look_t rfl)) rfl, fun L' hL => HO.v (r_ias (k := k1) Try.underlying95 ty139 (look_t rfl) (look_t rfl) (idx_some hk1)) rfl, fun L' hL => HO.v (r_fap le_T_api_Key_Field fd139_1 (look_t rfl) rfl rfl) rfl, fun L' hL => HO.v (r_loadp ty3 (look_t rfl)) rfl, fun L' hL => HO.v (r_call en85 (C_ref04_Bits hy1) ⟨look_t rfl, look_t rfl, trivial⟩) rfl, trivial⟩) fun ps1 => ?_
  refine Sq.v (r_asg (look_t rfl)) rfl rfl rfl ?_
  refine Sq.nil ?_
  refine To.next ?_
  refine Wp.ret ?_
  replace h := some_in h
  subst h
  exact To.end1 rfl (rv_t rfl)
set_option maxHeartbeats 2000000 in
theorem C_entry_Covers {x0 : T_api_Match} {x1 : Int} {x2 : Int} {x3 : T_api_Value}  {r : Bool} (h : L_entry_Covers x0 x1 x2 x3 = some r) : Meets Try.prog 87 [VP.of (x0), VP.of (x1), VP.of (x2), VP.of (x3)] (VP.of (r)) := by
  unfold L_entry_Covers at h
  refine Meets.of Try.func87 rfl Try.ntmps87 rfl fun W A => ?_
  refine Wp.seq ?_
  refine Wp.reg ?_
  refine Sq.box (z := (x0 : T_api_Match)) (look_t rfl) rfl fun p1 => ?_
  refine Sq.box (z := (x3 : T_api_Value)) (look_t rfl) rfl fun p2 => ?_
  refine Sq.v (r_asg (look_bool false)) rfl rfl rfl ?_
  refine Sq.nil ?_
  refine To.next ?_
  refine Wp.seq ?_
  refine Wp.seq ?_
  refine Wp.reg ?_
  refine Sq.v (r_fa fd141_0 (look_t rfl)) rfl rfl rfl ?_
  refine Sq.v (r_load (i := 1) ((Lens.id T_api_Match).comp le_T_api_Match_Present) (r := x0.f_Present) ty4 (look_t rfl) rfl rfl rfl) rfl rfl rfl ?_
  refine Sq.v (r_not (look_t rfl)) rfl rfl rfl ?_
  refine Sq.nil ?_
  refine To.next ?_
  refine Wp.cond (look_t rfl) (fun hc => ?_) (fun hc => ?_)
  · replace h := cond_t hc h
    refine Wp.seq ?_
    refine Wp.reg ?_
    refine Sq.v (r_move (look_t rfl)) rfl rfl rfl ?_
    refine Sq.v (r_geq (look_t rfl) (look_int 1)) rfl rfl rfl ?_
    refine Sq.v (r_move (look_t rfl)) rfl rfl rfl ?_
    refine Sq.g (fun hb => r_move (look_t rfl)) rfl rfl rfl rfl rfl ?_
    refine Sq.g (fun hb => r_leq (look_tc rfl hb) (look_int 4)) rfl rfl rfl rfl rfl ?_
    refine Sq.v (r_and (look_t rfl) (look_t rfl) (fun h => h)) rfl rfl rfl ?_
    refine Sq.v (r_asg (look_t rfl)) rfl rfl rfl ?_
    refine Sq.nil ?_
    refine To.next ?_
    refine Wp.ret ?_
    refine To.ret ?_
    replace h := some_in h
    subst h
    exact To.end1 rfl (rv_t rfl)
  · replace h := cond_f hc h
    refine Wp.skip ?_
    refine To.next ?_
    refine Wp.seq ?_
    refine Wp.seq ?_
    refine Wp.reg ?_
    refine Sq.v (r_move (look_t rfl)) rfl rfl rfl ?_
    refine Sq.nil ?_
    refine To.next ?_
    refine Wp.block ?_
    refine Wp.seq ?_
    refine Wp.reg ?_
    refine Sq.v (r_eql (look_t rfl) (look_int 1)) rfl rfl rfl ?_
    refine Sq.v (r_asg (look_t rfl)) rfl rfl rfl ?_
    refine Sq.nil ?_
    refine To.next ?_
    refine Wp.cond (look_t rfl) (fun hc => ?_) (fun hc => ?_)
    · replace h := cond_t hc h
      refine Wp.seq ?_
      refine Wp.reg ?_
      refine Sq.v (r_load (i := 0) (Lens.id T_api_Value) (r := x3) ty24 (look_t rfl) rfl rfl rfl) rfl rfl rfl ?_
      refine Sq.v (r_fa fd141_1 (look_t rfl)) rfl rfl rfl ?_
      refine Sq.v (r_load (i := 1) ((Lens.id T_api_Match).comp le_T_api_Match_Value) (r := x0.f_Value) ty24 (look_t rfl) rfl rfl rfl) rfl rfl rfl ?_
      refine Sq.v (r_eqA eqv24 rfl eqg24 rfl (look_t rfl) (look_t rfl)) rfl rfl rfl ?_
      refine Sq.v (r_asg (look_t rfl)) rfl rfl rfl ?_
      refine Sq.nil ?_
      refine To.next ?_
      refine Wp.ret ?_
      refine To.bret ?_
      refine To.ret ?_
      replace h := some_in h
      subst h
      exact To.end1 rfl (rv_t rfl)
    · replace h := cond_f hc h
      refine Wp.seq ?_
      refine Wp.reg ?_
      refine Sq.v (r_eql (look_t rfl) (look_int 2)) rfl rfl rfl ?_
      refine Sq.v (r_asg (look_t rfl)) rfl rfl rfl ?_
      refine Sq.nil ?_
      refine To.next ?_
      refine Wp.cond (look_t rfl) (fun hc => ?_) (fun hc => ?_)
      · replace h := cond_t hc h
        refine Wp.seq ?_
        refine Wp.reg ?_
        refine Sq.v (r_move (look_t rfl)) rfl rfl rfl ?_
        refine Sq.v (r_fa fd141_3 (look_t rfl)) rfl rfl rfl ?_
        refine Sq.v (r_load (i := 1) ((Lens.id T_api_Match).comp le_T_api_Match_Prefix) (r := x0.f_Prefix) ty3 (look_t rfl) rfl rfl rfl) rfl rfl rfl ?_
        obtain ⟨y1, hy1, h⟩ := bind_some h
        refine Sq.v (r_call en107 (C_value_Leading hy1) ⟨look_t rfl, look_t rfl, trivial⟩) rfl rfl rfl ?_
        refine Sq.alloc zr24 rfl fun p3 => ?_
        refine Sq.store (i := 0) (Lens.id T_api_Value) (v := (y1 : T_api_Value)) (b' := (y1 : T_api_Value)) ty24 (look_t rfl) (look_t rfl) rfl rfl rfl ?_
        refine Sq.nil ?_
        refine To.next ?_
        refine Wp.seq ?_
        obtain ⟨y2, hy2, h⟩ := bind_some h
        obtain ⟨y3, hy3, h⟩ := bind_some h
        refine Wp.draw mixed 8 [some 32, some 33, some 34, some 35, some 36, some 37, some 38, some 39] [[], [], [0, 1], [], [3], [], [4, 5], [2, 6]] [.val (VP.of (x3)), .val (VP.of (y1)), .val (VP.of (y2)), .val (VP.eq (.pointer (some ⟨p1, 0 + 1, none⟩))), .val (VP.of (x0.f_Value)), .val (VP.of (y1)), .val (VP.of (y3)), .val (VP.of (decide (y2 = y3)))] [false, false, false, false, false, false, false, false] (by kernel_rfl) rfl rfl rfl (fun ps1 => ⟨fun L' hL => HO.v (r_load (i := 1) (Lens.id T_api_Value) (r := x3) ty24 (look_t rfl) (hL _ _ rfl rfl) rfl rfl) rfl, fun L' hL => HO.v (r_load (i := 0) (Lens.id T_api_Value) (r := y1) ty24 (look_t rfl) (hL _ _ rfl rfl) rfl rfl) rfl, fun L' hL => HO.v (r_call en56 (C_value_And hy2) ⟨look_t rfl, look_t rfl, trivial⟩) rfl, fun L' hL => HO.v (r_fa fd141_1 (look_t rfl)) rfl, fun L' hL => HO.v (r_load (i := 2) ((Lens.id T_api_Match).comp le_T_api_Match_Value) (r := x0.f_Value) ty24 (look_t rfl) (hL _ _ rfl rfl) rfl rfl) rfl, fun L' hL => HO.v (r_load (i := 0) (Lens.id T_api_Value) (r := y1) ty24 (look_t rfl) (hL _ _ rfl rfl) rfl rfl) rfl, fun L' hL => HO.v (r_call en56 (C_value_And hy3) ⟨look_t rfl, look_t rfl, trivial⟩) rfl, fun L' hL => HO.v (r_eqA eqv24 rfl eqg24 rfl (look_t rfl) (look_t rfl)) rfl, trivial⟩) fun ps1 => ?_
        refine Sq.v (r_asg (look_t rfl)) rfl rfl rfl ?_
        refine Sq.nil ?_
        refine To.next ?_
        refine Wp.ret ?_
        refine To.bret ?_
        refine To.ret ?_
        replace h := some_in h
        subst h
        exact To.end1 rfl (rv_t rfl)
      · replace h := cond_f hc h
        refine Wp.seq ?_
        refine Wp.reg ?_
        refine Sq.v (r_eql (look_t rfl) (look_int 3)) rfl rfl rfl ?_
        refine Sq.v (r_asg (look_t rfl)) rfl rfl rfl ?_
        refine Sq.nil ?_
        refine To.next ?_
        refine Wp.cond (look_t rfl) (fun hc => ?_) (fun hc => ?_)
        · replace h := cond_t hc h
          refine Wp.seq ?_
          obtain ⟨y4, hy4, h⟩ := bind_some h
          refine Wp.draw mixed 7 [some 42, some 43, some 44, some 45, some 46, some 47, some 48] [[], [], [1], [0, 2], [], [4], [3, 5]] [.val (VP.of (x3)), .val (VP.eq (.pointer (some ⟨p1, 0 + 3, none⟩))), .val (VP.of (x0.f_Mask)), .val (VP.of (y4)), .val (VP.eq (.pointer (some ⟨p1, 0 + 1, none⟩))), .val (VP.of (x0.f_Value)), .val (VP.of (decide (y4 = x0.f_Value)))] [false, false, false, false, false, false, false] (by kernel_rfl) rfl rfl rfl (fun ps2 => ⟨fun L' hL => HO.v (r_load (i := 0) (Lens.id T_api_Value) (r := x3) ty24 (look_t rfl) (hL _ _ rfl rfl) rfl rfl) rfl, fun L' hL => HO.v (r_fa fd141_2 (look_t rfl)) rfl, fun L' hL => HO.v (r_load (i := 1) ((Lens.id T_api_Match).comp le_T_api_Match_Mask) (r := x0.f_Mask) ty24 (look_t rfl) (hL _ _ rfl rfl) rfl rfl) rfl, fun L' hL => HO.v (r_call en56 (C_value_And hy4) ⟨look_t rfl, look_t rfl, trivial⟩) rfl, fun L' hL => HO.v (r_fa fd141_1 (look_t rfl)) rfl, fun L' hL => HO.v (r_load (i := 1) ((Lens.id T_api_Match).comp le_T_api_Match_Value) (r := x0.f_Value) ty24 (look_t rfl) (hL _ _ rfl rfl) rfl rfl) rfl, fun L' hL => HO.v (r_eqA eqv24 rfl eqg24 rfl (look_t rfl) (look_t rfl)) rfl, trivial⟩) fun ps2 => ?_
          refine Sq.v (r_asg (look_t rfl)) rfl rfl rfl ?_
          refine Sq.nil ?_
          refine To.next ?_
          refine Wp.ret ?_
          refine To.bret ?_
          refine To.ret ?_
          replace h := some_in h
          subst h
          exact To.end1 rfl (rv_t rfl)
        · replace h := cond_f hc h
          refine Wp.seq ?_
          refine Wp.reg ?_
          refine Sq.v (r_eql (look_t rfl) (look_int 4)) rfl rfl rfl ?_
          refine Sq.v (r_asg (look_t rfl)) rfl rfl rfl ?_
          refine Sq.nil ?_
          refine To.next ?_
          refine Wp.cond (look_t rfl) (fun hc => ?_) (fun hc => ?_)
          · replace h := cond_t hc h
            refine Wp.seq ?_
            refine Wp.reg ?_
            refine Sq.v (r_fa fd141_1 (look_t rfl)) rfl rfl rfl ?_
            refine Sq.v (r_load (i := 1) ((Lens.id T_api_Match).comp le_T_api_Match_Value) (r := x0.f_Value) ty24 (look_t rfl) rfl rfl rfl) rfl rfl rfl ?_
            refine Sq.v (r_load (i := 0) (Lens.id T_api_Value) (r := x3) ty24 (look_t rfl) rfl rfl rfl) rfl rfl rfl ?_
            obtain ⟨y5, hy5, h⟩ := bind_some h
            refine Sq.v (r_call en111 (C_value_Compare hy5) ⟨look_t rfl, look_t rfl, trivial⟩) rfl rfl rfl ?_
            refine Sq.v (r_leq (look_t rfl) (look_int 0)) rfl rfl rfl ?_
            refine Sq.v (r_move (look_t rfl)) rfl rfl rfl ?_
            refine Sq.g (fun hb => r_load (i := 0) (Lens.id T_api_Value) (r := x3) ty24 (look_t rfl) rfl rfl rfl) rfl rfl rfl rfl rfl ?_
            refine Sq.g (fun hb => r_fa fd141_4 (look_t rfl)) rfl rfl rfl rfl rfl ?_
            refine Sq.g (fun hb => r_load (i := 1) ((Lens.id T_api_Match).comp le_T_api_Match_High) (r := x0.f_High) ty24 (look_tc rfl hb) rfl rfl rfl) rfl rfl rfl rfl rfl ?_
            obtain ⟨y6, hy6, h⟩ := bind_some h
            refine Sq.g (fun hb => r_call en111 (C_value_Compare (condM_some hy6 hb)) ⟨look_tc rfl hb, look_tc rfl hb, trivial⟩) rfl rfl rfl rfl rfl ?_
            refine Sq.g (fun hb => r_leq (look_tc rfl hb) (look_int 0)) rfl rfl rfl rfl rfl ?_
            refine Sq.v (r_and (look_t rfl) (look_t rfl) (fun h => h)) rfl rfl rfl ?_
            refine Sq.v (r_asg (look_t rfl)) rfl rfl rfl ?_
            refine Sq.nil ?_
            refine To.next ?_
            refine Wp.ret ?_
            refine To.bret ?_
            refine To.ret ?_
            replace h := some_in h
            subst h
            exact To.end1 rfl (rv_t rfl)
          · replace h := cond_f hc h
            refine Wp.skip ?_
            refine To.bnorm ?_
            refine To.next ?_
            refine Wp.seq ?_
            refine Wp.reg ?_
            refine Sq.v (r_asg (look_bool false)) rfl rfl rfl ?_
            refine Sq.nil ?_
            refine To.next ?_
            refine Wp.ret ?_
            replace h := some_in h
            subst h
            exact To.end1 rfl (rv_t rfl)
set_option maxHeartbeats 2000000 in
theorem C_cube_without {x0 : T_api_Value} {x1 : T_api_Value}  {r : T_api_Value} (h : L_cube_without x0 x1 = some r) : Meets Try.prog 53 [VP.of (x0), VP.of (x1)] (VP.of (r)) := by
  unfold L_cube_without at h
  refine Meets.of Try.func53 rfl Try.ntmps53 rfl fun W A => ?_
  refine Wp.seq ?_
  refine Wp.reg ?_
  refine Sq.box (z := (x0 : T_api_Value)) (look_t rfl) rfl fun p1 => ?_
  refine Sq.box (z := (x1 : T_api_Value)) (look_t rfl) rfl fun p2 => ?_
  refine Sq.alloc zr24 rfl fun p3 => ?_
  refine Sq.nil ?_
  refine To.next ?_
  refine Wp.seq ?_
  obtain ⟨y1, hy1, h⟩ := bind_some h
  obtain ⟨y2, hy2, h⟩ := bind_some h
  refine Wp.draw mixed 4 [some 5, some 6, some 7, some 8] [[], [], [1], [0, 2]] [.val (VP.of (x0)), .val (VP.of (x1)), .val (VP.of (y1)), .val (VP.of (y2))] [false, false, false, false] (by kernel_rfl) rfl rfl rfl (fun ps1 => ⟨fun L' hL => HO.v (r_load (i := 2) (Lens.id T_api_Value) (r := x0) ty24 (look_t rfl) (hL _ _ rfl rfl) rfl rfl) rfl, fun L' hL => HO.v (r_load (i := 1) (Lens.id T_api_Value) (r := x1) ty24 (look_t rfl) (hL _ _ rfl rfl) rfl rfl) rfl, fun L' hL => HO.v (r_call en89 (C_value_Not hy1) ⟨look_t rfl, look_int 128, trivial⟩) rfl, fun L' hL => HO.v (r_call en56 (C_value_And hy2) ⟨look_t rfl, look_t rfl, trivial⟩) rfl, trivial⟩) fun ps1 => ?_
  refine Sq.store (i := 0) (Lens.id T_api_Value) (v := (y2 : T_api_Value)) (b' := (y2 : T_api_Value)) ty24 (look_t rfl) (look_t rfl) rfl rfl rfl ?_
  refine Sq.nil ?_
  refine To.next ?_
  refine Wp.ret ?_
  replace h := some_in h
  subst h
  exact To.end1 rfl (rv_c (i := 0) ty24 rfl rfl)
set_option maxHeartbeats 2000000 in
theorem C_cube_Fix {x0 : T_cube_Cube} {x1 : Int} {x2 : Bool}  {r : T_cube_Cube} (h : L_cube_Fix x0 x1 x2 = some r) : Meets Try.prog 21 [VP.of (x0), VP.of (x1), VP.of (x2)] (VP.of (r)) := by
  unfold L_cube_Fix at h
  refine Meets.of Try.func21 rfl Try.ntmps21 rfl fun W A => ?_
  refine Wp.seq ?_
  refine Wp.reg ?_
  refine Sq.box (z := (x0 : T_cube_Cube)) (look_t rfl) rfl fun p1 => ?_
  refine Sq.alloc zr28 rfl fun p2 => ?_
  refine Sq.nil ?_
  refine To.next ?_
  refine Wp.seq ?_
  refine Wp.seq ?_
  refine Wp.reg ?_
  refine Sq.v (r_move (look_t rfl)) rfl rfl rfl ?_
  refine Sq.v (r_lss (look_t rfl) (look_int 0)) rfl rfl rfl ?_
  refine Sq.v (r_move (look_t rfl)) rfl rfl rfl ?_
  refine Sq.g (fun hb => r_move (look_t rfl)) rfl rfl rfl rfl rfl ?_
  refine Sq.g (fun hb => r_geq (look_tc rfl hb) (look_int 512)) rfl rfl rfl rfl rfl ?_
  refine Sq.v (r_or (look_t rfl) (look_t rfl) (fun h => h)) rfl rfl rfl ?_
  refine Sq.v (r_move (look_t rfl)) rfl rfl rfl ?_
  refine Sq.g (fun hb => r_fa fd28_1 (look_t rfl)) rfl rfl rfl rfl rfl ?_
  refine Sq.g (fun hb => r_load (i := 1) ((Lens.id T_cube_Cube).comp le_T_cube_Cube_Mask) (r := x0.f_Mask) ty26 (look_tc rfl hb) rfl rfl rfl) rfl rfl rfl rfl rfl ?_
  refine Sq.g (fun hb => r_move (look_t rfl)) rfl rfl rfl rfl rfl ?_
  obtain ⟨y1, hy1, h⟩ := bind_some h
  refine Sq.g (fun hb => r_call en54 (C_cube_has (condM_some hy1 hb)) ⟨look_tc rfl hb, look_tc rfl hb, trivial⟩) rfl rfl rfl rfl rfl ?_
  refine Sq.v (r_or (look_t rfl) (look_t rfl) (fun h => h)) rfl rfl rfl ?_
  refine Sq.nil ?_
  refine To.next ?_
  refine Wp.cond (look_t rfl) (fun hc => ?_) (fun hc => ?_)
  · replace h := cond_t hc h
    refine Wp.seq ?_
    refine Wp.reg ?_
    refine Sq.v (r_load (i := 1) (Lens.id T_cube_Cube) (r := x0) ty28 (look_t rfl) rfl rfl rfl) rfl rfl rfl ?_
    refine Sq.store (i := 0) (Lens.id T_cube_Cube) (v := (x0 : T_cube_Cube)) (b' := (x0 : T_cube_Cube)) ty28 (look_t rfl) (look_t rfl) rfl rfl rfl ?_
    refine Sq.nil ?_
    refine To.next ?_
    refine Wp.ret ?_
    refine To.ret ?_
    replace h := some_in h
    subst h
    exact To.end1 rfl (rv_c (i := 0) ty28 rfl rfl)
  · replace h := cond_f hc h
    refine Wp.skip ?_
    refine To.next ?_
    refine Wp.seq ?_
    refine Wp.reg ?_
    refine Sq.v (r_move (look_t rfl)) rfl rfl rfl ?_
    obtain ⟨y2, hy2, h⟩ := bind_some h
    refine Sq.v (r_call en59 (C_cube_place hy2) ⟨look_t rfl, trivial⟩) rfl rfl rfl ?_
    refine Sq.v (r_move (look_t rfl)) rfl rfl rfl ?_
    refine Sq.v (r_ext (look_t rfl) rfl) rfl rfl rfl ?_
    refine Sq.v (r_ext (look_t rfl) rfl) rfl rfl rfl ?_
    refine Sq.v (r_asg (look_t rfl)) rfl rfl rfl ?_
    refine Sq.v (r_asg (look_t rfl)) rfl rfl rfl ?_
    refine Sq.nil ?_
    refine To.next ?_
    refine Wp.seq ?_
    refine Wp.reg ?_
    obtain ⟨y3, hy3, h⟩ := bind_some h
    refine Sq.v (r_call en61 (C_value_Of hy3) ⟨look_u64 1 rfl, trivial⟩) rfl rfl rfl ?_
    refine Sq.v (r_move (look_t rfl)) rfl rfl rfl ?_
    obtain ⟨y4, hy4, h⟩ := bind_some h
    refine Sq.v (r_call en60 (C_value_Left hy4) ⟨look_t rfl, look_t rfl, trivial⟩) rfl rfl rfl ?_
    refine Sq.alloc zr24 rfl fun p3 => ?_
    refine Sq.store (i := 0) (Lens.id T_api_Value) (v := (y4 : T_api_Value)) (b' := (y4 : T_api_Value)) ty24 (look_t rfl) (look_t rfl) rfl rfl rfl ?_
    refine Sq.nil ?_
    refine To.next ?_
    refine Wp.seq ?_
    obtain ⟨k1, hk1, h⟩ := bind_some h
    obtain ⟨y5, hy5, h⟩ := bind_some h
    obtain ⟨k2, hk2, h⟩ := bind_some h
    refine Wp.draw mixed 9 [some 31, some 32, some 33, some 34, some 35, some 36, some 37, some 38, some 39] [[], [], [], [1, 2], [3], [], [4, 5], [], [0, 7]] [.val (VP.of (y2.1)), .val (VP.of (y2.1)), .val (VP.eq (.pointer (some ⟨p1, 0 + 8, none⟩))), .val (VP.eq (.pointer (some ⟨p1, 0 + 8 + k1 * 2, none⟩))), .val (VP.of (vget x0.f_Mask k1)), .val (VP.of (y4)), .val (VP.of (y5)), .val (VP.eq (.pointer (some ⟨p1, 0 + 8, none⟩))), .val (VP.eq (.pointer (some ⟨p1, 0 + 8 + k2 * 2, none⟩)))] [false, false, false, false, false, false, false, false, false] (by kernel_rfl) rfl rfl rfl (fun ps1 => ⟨fun L' hL => HO.v (r_move (look_t rfl)) rfl, fun L' hL => HO.v (r_move (look_t rfl)) rfl, fun L' hL => HO.v (r_fa fd28_1 (look_t rfl)) rfl, fun L' hL => HO.v (r_ia (k := k1) ar26 (look_t rfl) (look_t rfl) (idx_some hk1)) rfl, fun L' hL => HO.v (r_load (i := 2) (((Lens.id T_cube_Cube).comp le_T_cube_Cube_Mask).comp (Lens.idx (α := T_api_Value) 4 k1 (idx_some hk1).1)) (r := vget x0.f_Mask k1) ty24 (look_t rfl) (hL _ _ rfl rfl) rfl rfl) rfl, fun L' hL => HO.v (r_load (i := 0) (Lens.id T_api_Value) (r := y4) ty24 (look_t rfl) (hL _ _ rfl rfl) rfl rfl) rfl, fun L' hL => HO.v (r_call en58 (C_value_Or hy5) ⟨look_t rfl, look_t rfl, trivial⟩) rfl, fun L' hL => HO.v (r_fa fd28_1 (look_t rfl)) rfl, fun L' hL => HO.v (r_ia (k := k2) ar26 (look_t rfl) (look_t rfl) (idx_some hk2)) rfl, trivial⟩) fun ps1 => ?_
    refine Sq.store (i := 2) (((Lens.id T_cube_Cube).comp le_T_cube_Cube_Mask).comp (Lens.idx (α := T_api_Value) 4 k2 (idx_some hk2).1)) (v := (y5 : T_api_Value)) (b' := (({ x0 with f_Mask := vset x0.f_Mask k2 y5 } : T_cube_Cube) : T_cube_Cube)) ty24 (look_t rfl) (look_t rfl) rfl rfl rfl ?_
    refine Sq.nil ?_
    refine To.next ?_
    refine Wp.seq ?_
    refine Wp.seq ?_
    refine Wp.reg ?_
    refine Sq.v (r_move (look_t rfl)) rfl rfl rfl ?_
    refine Sq.nil ?_
    refine To.next ?_
    obtain ⟨m1, hm1, h⟩ := bind_some h
    refine Wp.condM (γ := Unit) (fun g1 => [(0, VP.of (x0)), (1, VP.of (x1)), (2, VP.of (x2)), (3, VP.eq (.pointer (some ⟨p1, 0, none⟩))), (6, VP.eq (.pointer (some ⟨p2, 0, none⟩))), (7, VP.of (y2.1)), (8, VP.of (y2.2)), (9, VP.eq (.pointer (some ⟨p3, 0, none⟩))), (21, VP.of (((decide (x1 < 0)) || (decide (x1 ≥ 512))) || y1)), (40, VP.of (x2))]) (fun g1 => [⟨some p3, .var (y4 : T_api_Value)⟩, ⟨some p2, .var ((default : T_cube_Cube) : T_cube_Cube)⟩, ⟨some p1, .var (m1 : T_cube_Cube)⟩]) (look_t rfl) (fun g1 => ?_) (fun hm hc => ?_) (fun hm hc => ?_)
    · clear hm1
      refine To.next ?_
      refine Wp.seq ?_
      refine Wp.reg ?_
      refine Sq.v (r_load (i := 2) (Lens.id T_cube_Cube) (r := m1) ty28 (look_t rfl) rfl rfl rfl) rfl rfl rfl ?_
      refine Sq.store (i := 1) (Lens.id T_cube_Cube) (v := (m1 : T_cube_Cube)) (b' := (m1 : T_cube_Cube)) ty28 (look_t rfl) (look_t rfl) rfl rfl rfl ?_
      refine Sq.nil ?_
      refine To.next ?_
      refine Wp.ret ?_
      replace h := some_in h
      subst h
      exact To.end1 rfl (rv_c (i := 1) ty28 rfl rfl)
    · have h := cond_t hc hm1
      obtain ⟨k3, hk3, h⟩ := bind_some h
      obtain ⟨z1, hz1, h⟩ := bind_some h
      obtain ⟨y6, hy6, h⟩ := bind_some h
      obtain ⟨k4, hk4, h⟩ := bind_some h
      refine Wp.draw mixed 9 [some 41, some 42, some 43, some 44, some 45, some 46, some 47, some 48, some 49] [[], [], [], [1, 2], [3], [], [4, 5], [], [0, 7]] [.val (VP.of (y2.1)), .val (VP.of (y2.1)), .val (VP.eq (.pointer (some ⟨p1, 0 + 0, none⟩))), .val (VP.eq (.pointer (some ⟨p1, 0 + 0 + k3 * 2, none⟩))), .val (VP.of (z1)), .val (VP.of (y4)), .val (VP.of (y6)), .val (VP.eq (.pointer (some ⟨p1, 0 + 0, none⟩))), .val (VP.eq (.pointer (some ⟨p1, 0 + 0 + k4 * 2, none⟩)))] [false, false, false, false, false, false, false, false, false] (by kernel_rfl) rfl rfl rfl (fun ps2 => ⟨fun L' hL => HO.v (r_move (look_t rfl)) rfl, fun L' hL => HO.v (r_move (look_t rfl)) rfl, fun L' hL => HO.v (r_fa fd28_0 (look_t rfl)) rfl, fun L' hL => HO.v (r_ia (k := k3) ar26 (look_t rfl) (look_t rfl) (idx_some hk3)) rfl, fun L' hL => HO.v ((r_load (i := 2) (((Lens.id T_cube_Cube).comp le_T_cube_Cube_Value).comp (Lens.idx (α := T_api_Value) 4 k3 (idx_some hk3).1)) (r := vget (({ x0 with f_Mask := vset x0.f_Mask k2 y5 } : T_cube_Cube).f_Value) k3) ty24 (look_t rfl) (hL _ _ rfl rfl) rfl rfl).as (some_in hz1)) rfl, fun L' hL => HO.v (r_load (i := 0) (Lens.id T_api_Value) (r := y4) ty24 (look_t rfl) (hL _ _ rfl rfl) rfl rfl) rfl, fun L' hL => HO.v (r_call en58 (C_value_Or hy6) ⟨look_t rfl, look_t rfl, trivial⟩) rfl, fun L' hL => HO.v (r_fa fd28_0 (look_t rfl)) rfl, fun L' hL => HO.v (r_ia (k := k4) ar26 (look_t rfl) (look_t rfl) (idx_some hk4)) rfl, trivial⟩) fun ps2 => ?_
      obtain ⟨z2, hz2, h⟩ := bind_some h
      refine Sq.store (i := 2) (((Lens.id T_cube_Cube).comp le_T_cube_Cube_Value).comp (Lens.idx (α := T_api_Value) 4 k4 (idx_some hk4).1)) (v := (y6 : T_api_Value)) (b' := (z2 : T_cube_Cube)) ty24 (look_t rfl) (look_t rfl) rfl rfl (some_in hz2) ?_
      refine Sq.nil ?_
      replace h := some_in h
      subst h
      exact To.meet 0 rfl (.same rfl (.same rfl (.same rfl (.same rfl (.same rfl (.same rfl (.same rfl (.same rfl (.same rfl (.same rfl .nil)))))))))) (hm ())
    · have h := cond_f hc hm1
      refine Wp.skip ?_
      replace h := some_in h
      subst h
      exact To.meet 0 rfl (.same rfl (.same rfl (.same rfl (.same rfl (.same rfl (.same rfl (.same rfl (.same rfl (.same rfl (.same rfl .nil)))))))))) (hm ())
end Go.Proofs.Ytabodolbdalimaa
