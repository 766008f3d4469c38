/-
  Printed by the decompiler (dec.py) out of the seat's translation. Each function meets its functional program. Conditions: none.
-/
import Derived.Test.YtabodolbdalimaaDc1
import Derived.Test.YtabodolbdalimaaDc5
import Derived.Test.YtabodolbdalimaaDc14
namespace Go.Proofs.Ytabodolbdalimaa
open Go Gv
set_option linter.unusedVariables false
set_option linter.unusedSimpArgs false
set_option maxRecDepth 100000
set_option maxHeartbeats 2000000 in
theorem C_cube_Of {x0 : T_api_Schema} {x1 : T_api_Entry}  {r : T_cube_Cube × Bool} (h : L_cube_Of x0 x1 = some r) : Meets Try.prog 44 [VP.of (x0), VP.of (x1)] (VP.tup [VP.of (r.1), VP.of (r.2)]) := by
  unfold L_cube_Of at h
  refine Meets.of Try.func44 rfl Try.ntmps44 rfl fun W A => ?_
  refine Wp.seq ?_
  refine Wp.reg ?_
  refine Sq.box (z := (x0 : T_api_Schema)) (look_t rfl) rfl fun p1 => ?_
  refine Sq.box (z := (x1 : T_api_Entry)) (look_t rfl) rfl fun p2 => ?_
  refine Sq.alloc zr28 rfl fun p3 => ?_
  refine Sq.v (r_asg (look_bool false)) rfl rfl rfl ?_
  refine Sq.nil ?_
  refine To.next ?_
  refine Wp.seq ?_
  refine Wp.reg ?_
  refine Sq.v (r_load (i := 2) (Lens.id T_api_Schema) (r := x0) ty84 (look_t rfl) rfl rfl rfl) rfl rfl rfl ?_
  refine Sq.v (r_fa fd91_0 (look_t rfl)) rfl rfl rfl ?_
  refine Sq.v (r_load (i := 1) ((Lens.id T_api_Entry).comp le_T_api_Entry_Table) (r := x1.f_Table) ty3 (look_t rfl) rfl rfl rfl) rfl rfl rfl ?_
  obtain ⟨y1, hy1, h⟩ := bind_some h
  refine Sq.v (r_call en80 (C_check_TableOf hy1) ⟨look_t rfl, look_t rfl, trivial⟩) rfl rfl rfl ?_
  refine Sq.v (r_asg (look_t rfl)) rfl rfl rfl ?_
  refine Sq.nil ?_
  refine To.next ?_
  refine Wp.seq ?_
  refine Wp.seq ?_
  refine Wp.reg ?_
  refine Sq.v (r_move (look_t rfl)) rfl rfl rfl ?_
  refine Sq.v (r_lss (look_t rfl) (look_int 0)) rfl rfl rfl ?_
  refine Sq.nil ?_
  refine To.next ?_
  refine Wp.cond (look_t rfl) (fun hc => ?_) (fun hc => ?_)
  · replace h := cond_t hc h
    refine Wp.seq ?_
    refine Wp.reg ?_
    refine Sq.v (r_build (b := (default : T_cube_Cube)) rfl bu28 zr28 (.nil)) rfl rfl rfl ?_
    refine Sq.store (i := 0) (Lens.id T_cube_Cube) (v := ((default : T_cube_Cube) : T_cube_Cube)) (b' := ((default : T_cube_Cube) : T_cube_Cube)) ty28 (look_t rfl) (look_t rfl) rfl rfl rfl ?_
    refine Sq.v (r_asg (look_bool false)) rfl rfl rfl ?_
    refine Sq.nil ?_
    refine To.next ?_
    refine Wp.ret ?_
    refine To.ret ?_
    replace h := some_in h
    subst h
    exact To.end2 rfl (rv_c (i := 0) ty28 rfl rfl) (rv_t rfl)
  · replace h := cond_f hc h
    refine Wp.skip ?_
    refine To.next ?_
    refine Wp.seq ?_
    refine Wp.reg ?_
    refine Sq.alloc zr28 rfl fun p4 => ?_
    refine Sq.nil ?_
    refine To.next ?_
    refine Wp.seq ?_
    refine Wp.seq ?_
    refine Wp.reg ?_
    refine Sq.v (r_fa fd84_4 (look_t rfl)) rfl rfl rfl ?_
    refine Sq.v (r_load (i := 3) ((Lens.id T_api_Schema).comp le_T_api_Schema_Tables) (r := x0.f_Tables) ty79 (look_t rfl) rfl rfl rfl) rfl rfl rfl ?_
    refine Sq.v (r_move (look_t rfl)) rfl rfl rfl ?_
    obtain ⟨k1, hk1, h⟩ := bind_some h
    refine Sq.v (r_ias (k := k1) Try.underlying79 ty97 (look_t rfl) (look_t rfl) (idx_some hk1)) rfl rfl rfl ?_
    refine Sq.v (r_fap le_T_api_Table_Keys fd97_2 (look_t rfl) rfl rfl) rfl rfl rfl ?_
    refine Sq.v (r_loadp ty95 (look_t rfl)) rfl rfl rfl ?_
    refine Sq.v (r_len Try.underlying95 (look_t rfl)) rfl rfl rfl ?_
    refine Sq.v (r_move (look_int 0)) rfl rfl rfl ?_
    refine Sq.nil ?_
    refine To.next ?_
    refine Wp.block ?_
    obtain ⟨e1, hl, h⟩ := bind_some h
    refine Wp.loopG (σ := Int × T_cube_Cube) (ε := (Int × Bool × T_cube_Cube) ⊕ (Int × Int × Int × Bool × Bool × T_cube_Cube)) (γ := Unit) (δ := Unit) hl (fun s1 g1 => [(0, VP.of (x0)), (1, VP.of (x1)), (2, VP.eq (.pointer (some ⟨p1, 0, none⟩))), (3, VP.eq (.pointer (some ⟨p2, 0, none⟩))), (4, VP.eq (.pointer (some ⟨p3, 0, none⟩))), (5, VP.of (false)), (6, VP.of (y1)), (7, VP.eq (.pointer (some ⟨p4, 0, none⟩))), (16, VP.of (decide (y1 < 0))), (23, VP.of ((lget x0.f_Tables k1).f_Keys)), (24, VP.of (((lget x0.f_Tables k1).f_Keys).length : Int)), (25, VP.of (s1.1))]) (fun s1 g1 => [⟨some p4, .var (s1.2 : T_cube_Cube)⟩, ⟨some p3, .var ((default : T_cube_Cube) : T_cube_Cube)⟩, ⟨some p2, .var (x1 : T_api_Entry)⟩, ⟨some p1, .var (x0 : T_api_Schema)⟩]) (fun q1 => Sum.elim (fun q1 => Exit.exit 0) (fun q1 => Exit.ret) q1) (fun q1 g1 => Sum.elim (fun q1 => [(0, VP.of (x0)), (1, VP.of (x1)), (2, VP.eq (.pointer (some ⟨p1, 0, none⟩))), (3, VP.eq (.pointer (some ⟨p2, 0, none⟩))), (4, VP.eq (.pointer (some ⟨p3, 0, none⟩))), (5, VP.of (false)), (6, VP.of (y1)), (7, VP.eq (.pointer (some ⟨p4, 0, none⟩))), (16, VP.of (decide (y1 < 0))), (23, VP.of ((lget x0.f_Tables k1).f_Keys)), (24, VP.of (((lget x0.f_Tables k1).f_Keys).length : Int)), (25, VP.of (q1.1)), (26, VP.of (q1.2.1))]) (fun q1 => [(0, VP.of (x0)), (1, VP.of (x1)), (2, VP.eq (.pointer (some ⟨p1, 0, none⟩))), (3, VP.eq (.pointer (some ⟨p2, 0, none⟩))), (4, VP.eq (.pointer (some ⟨p3, 0, none⟩))), (5, VP.of (false)), (6, VP.of (y1)), (7, VP.eq (.pointer (some ⟨p4, 0, none⟩))), (8, VP.of (q1.1)), (10, VP.of (q1.2.1)), (16, VP.of (decide (y1 < 0))), (23, VP.of ((lget x0.f_Tables k1).f_Keys)), (24, VP.of (((lget x0.f_Tables k1).f_Keys).length : Int)), (25, VP.of (q1.2.2.1)), (26, VP.of (q1.2.2.2.1)), (51, VP.of (q1.2.2.2.2.1))]) q1) (fun q1 g1 => Sum.elim (fun q1 => [⟨some p4, .var (q1.2.2 : T_cube_Cube)⟩, ⟨some p3, .var ((default : T_cube_Cube) : T_cube_Cube)⟩, ⟨some p2, .var (x1 : T_api_Entry)⟩, ⟨some p1, .var (x0 : T_api_Schema)⟩]) (fun q1 => [⟨some p4, .var (q1.2.2.2.2.2 : T_cube_Cube)⟩, ⟨some p3, .var ((default : T_cube_Cube) : T_cube_Cube)⟩, ⟨some p2, .var (x1 : T_api_Entry)⟩, ⟨some p1, .var (x0 : T_api_Schema)⟩]) q1) () rfl (.same rfl (.same rfl (.same rfl (.same rfl (.same rfl (.same rfl (.same rfl (.same rfl (.same rfl (.same rfl (.same rfl (.same rfl .nil)))))))))))) (fun s1 r h g1 => ?_) (fun g1 => ?_)
    · clear hl
      refine Wp.seq ?_
      refine Wp.reg ?_
      refine Sq.v (r_lss (look_t rfl) (look_t rfl)) rfl rfl rfl ?_
      refine Sq.nil ?_
      refine To.next ?_
      refine Wp.seq ?_
      refine Wp.cond (look_t rfl) (fun hc => ?_) (fun hc => ?_)
      · replace h := cond_t hc h
        refine Wp.skip ?_
        refine To.next ?_
        refine Wp.seq ?_
        refine Wp.block ?_
        refine Wp.seq ?_
        refine Wp.reg ?_
        refine Sq.v (r_move (look_t rfl)) rfl rfl rfl ?_
        obtain ⟨k2, hk2, h⟩ := bind_some h
        refine Sq.v (r_ias (k := k2) Try.underlying95 ty139 (look_t rfl) (look_t rfl) (idx_some hk2)) rfl rfl rfl ?_
        refine Sq.v (r_loadp ty139 (look_t rfl)) rfl rfl rfl ?_
        refine Sq.alloc zr139 rfl fun p5 => ?_
        refine Sq.v (r_asg (look_t rfl)) rfl rfl rfl ?_
        refine Sq.store (i := 0) (Lens.id T_api_Key) (v := (lget ((lget x0.f_Tables k1).f_Keys) k2 : T_api_Key)) (b' := (lget ((lget x0.f_Tables k1).f_Keys) k2 : T_api_Key)) ty139 (look_t rfl) (look_t rfl) rfl rfl rfl ?_
        refine Sq.nil ?_
        refine To.next ?_
        refine Wp.seq ?_
        refine Wp.reg ?_
        refine Sq.v (r_load (i := 4) (Lens.id T_api_Schema) (r := x0) ty84 (look_t rfl) rfl rfl rfl) rfl rfl rfl ?_
        refine Sq.v (r_fa fd139_1 (look_t rfl)) rfl rfl rfl ?_
        refine Sq.v (r_load (i := 0) ((Lens.id T_api_Key).comp le_T_api_Key_Field) (r := (lget ((lget x0.f_Tables k1).f_Keys) k2).f_Field) ty3 (look_t rfl) rfl rfl rfl) rfl rfl rfl ?_
        obtain ⟨y2, hy2, h⟩ := bind_some h
        refine Sq.v (r_call en81 (C_check_FieldOf hy2) ⟨look_t rfl, look_t rfl, trivial⟩) rfl rfl rfl ?_
        refine Sq.v (r_asg (look_t rfl)) rfl rfl rfl ?_
        refine Sq.nil ?_
        refine To.next ?_
        refine Wp.seq ?_
        refine Wp.seq ?_
        refine Wp.reg ?_
        refine Sq.v (r_fa fd139_2 (look_t rfl)) rfl rfl rfl ?_
        refine Sq.v (r_load (i := 0) ((Lens.id T_api_Key).comp le_T_api_Key_Kind) (r := (lget ((lget x0.f_Tables k1).f_Keys) k2).f_Kind) ty3 (look_t rfl) rfl rfl rfl) rfl rfl rfl ?_
        refine Sq.v (r_eql (look_t rfl) (look_int 4)) rfl rfl rfl ?_
        refine Sq.v (r_move (look_t rfl)) rfl rfl rfl ?_
        refine Sq.g (fun hb => r_move (look_t rfl)) rfl rfl rfl rfl rfl ?_
        refine Sq.g (fun hb => r_lss (look_tc rfl hb) (look_int 0)) rfl rfl rfl rfl rfl ?_
        obtain ⟨z1, hz1, h⟩ := bind_some h
        refine Sq.v ((r_or (look_t rfl) (look_t rfl) (fun h => h)).as (some_in hz1)) rfl rfl rfl ?_
        refine Sq.v (r_move (look_t rfl)) rfl rfl rfl ?_
        refine Sq.g (fun hb => r_move (look_t rfl)) rfl rfl rfl rfl rfl ?_
        refine Sq.g (fun hb => r_fa fd91_1 (look_t rfl)) rfl rfl rfl rfl rfl ?_
        refine Sq.g (fun hb => r_load (i := 3) ((Lens.id T_api_Entry).comp le_T_api_Entry_Matches) (r := x1.f_Matches) ty88 (look_tc rfl hb) rfl rfl rfl) rfl rfl rfl rfl rfl ?_
        refine Sq.g (fun hb => r_len Try.underlying88 (look_tc rfl hb)) rfl rfl rfl rfl rfl ?_
        refine Sq.g (fun hb => r_geq (look_tc rfl hb) (look_tc rfl hb)) rfl rfl rfl rfl rfl ?_
        refine Sq.v (r_or (look_t rfl) (look_t rfl) (fun h => h)) rfl rfl rfl ?_
        refine Sq.v (r_move (look_t rfl)) rfl rfl rfl ?_
        refine Sq.g (fun hb => r_move (look_t rfl)) rfl rfl rfl rfl rfl ?_
        refine Sq.g (fun hb => r_geq (look_tc rfl hb) (look_int 4)) rfl rfl rfl rfl rfl ?_
        obtain ⟨z2, hz2, h⟩ := bind_some h
        refine Sq.v ((r_or (look_t rfl) (look_t rfl) (fun h => h)).as (some_in hz2)) rfl rfl rfl ?_
        refine Sq.nil ?_
        refine To.next ?_
        refine Wp.cond (look_t rfl) (fun hc => ?_) (fun hc => ?_)
        · replace h := cond_t hc h
          refine Wp.seq ?_
          refine Wp.reg ?_
          refine Sq.v (r_build (b := (default : T_cube_Cube)) rfl bu28 zr28 (.nil)) rfl rfl rfl ?_
          refine Sq.store (i := 2) (Lens.id T_cube_Cube) (v := ((default : T_cube_Cube) : T_cube_Cube)) (b' := ((default : T_cube_Cube) : T_cube_Cube)) ty28 (look_t rfl) (look_t rfl) rfl rfl rfl ?_
          refine Sq.v (r_asg (look_bool false)) rfl rfl rfl ?_
          refine Sq.nil ?_
          refine To.next ?_
          refine Wp.ret ?_
          refine To.ret ?_
          refine To.bret ?_
          refine To.ret ?_
          replace h := some_in h
          subst h
          exact To.leaveG () 1 rfl (by simp) rfl (.same rfl (.same rfl (.same rfl (.same rfl (.same rfl (.same rfl (.same rfl (.same rfl (.same rfl (.same rfl (.same rfl (.same rfl (.same rfl (.same rfl (.same rfl (.same rfl .nil))))))))))))))))
        · replace h := cond_f hc h
          refine Wp.skip ?_
          refine To.next ?_
          refine Wp.seq ?_
          obtain ⟨k3, hk3, h⟩ := bind_some h
          obtain ⟨k4, hk4, h⟩ := bind_some h
          obtain ⟨y3, hy3, h⟩ := bind_some h
          obtain ⟨k5, hk5, h⟩ := bind_some h
          refine Wp.draw mixed 17 ((some 53) :: (some 54) :: (some 55) :: (some 56) :: (some 57) :: (some 58) :: (some 59) :: (some 60) :: (some 61) :: (some 62) :: (some 63) :: (some 64) :: (some 65) :: (some 66) :: (some 67) :: (some 68) :: (some 69) :: []) ([] :: [] :: [1] :: [] :: [2, 3] :: [4] :: [] :: [6] :: [] :: [8] :: [] :: [9, 10] :: [11] :: [12] :: [5, 7, 13] :: [] :: [0, 15] :: []) (.val (VP.of (s1.1)) :: .val (VP.eq (.pointer (some ⟨p2, 0 + 1, none⟩))) :: .val (VP.of (x1.f_Matches)) :: .val (VP.of (s1.1)) :: .val (VP.ptr (lget x1.f_Matches k3)) :: .val (VP.of (lget x1.f_Matches k3)) :: .val (VP.eq (.pointer (some ⟨p5, 0 + 2, none⟩))) :: .val (VP.of ((lget ((lget x0.f_Tables k1).f_Keys) k2).f_Kind)) :: .val (VP.eq (.pointer (some ⟨p1, 0 + 0, none⟩))) :: .val (VP.of (x0.f_Fields)) :: .val (VP.of (y2)) :: .val (VP.ptr (lget x0.f_Fields k4)) :: .val (VP.ptr ((lget x0.f_Fields k4).f_Bits)) :: .val (VP.of ((lget x0.f_Fields k4).f_Bits)) :: .val (VP.of (y3)) :: .val (VP.eq (.pointer (some ⟨p4, 0 + 8, none⟩))) :: .val (VP.eq (.pointer (some ⟨p4, 0 + 8 + k5 * 2, none⟩))) :: []) (false :: false :: false :: false :: false :: false :: false :: false :: false :: false :: false :: false :: false :: false :: false :: false :: false :: []) (by kernel_rfl) rfl rfl rfl (fun ps1 => ⟨fun L' hL => HO.v (r_move (look_t rfl)) rfl, fun L' hL => HO.v (r_fa fd91_1 (look_t rfl)) rfl, fun L' hL => HO.v (r_load (i := 3) ((Lens.id T_api_Entry).comp le_T_api_Entry_Matches) (r := x1.f_Matches) ty88 (look_t rfl) (hL _ _ rfl rfl) rfl rfl) rfl, fun L' hL => HO.v (r_move (look_t rfl)) rfl, fun L' hL => HO.v (r_ias (k := k3) Try.underlying88 ty141 (look_t rfl) (look_t rfl) (idx_some hk3)) rfl, fun L' hL => HO.v (r_loadp ty141 (look_t rfl)) rfl, fun L' hL => HO.v (r_fa fd139_2 (look_t rfl)) rfl, fun L' hL => HO.v (r_load (i := 0) ((Lens.id T_api_Key).comp le_T_api_Key_Kind) (r := (lget ((lget x0.f_Tables k1).f_Keys) k2).f_Kind) ty3 (look_t rfl) (hL _ _ rfl rfl) rfl rfl) rfl, fun L' hL => HO.v (r_fa fd84_0 (look_t rfl)) rfl, fun L' hL => HO.v (r_load (i := 4) ((Lens.id T_api_Schema).comp le_T_api_Schema_Fields) (r := x0.f_Fields) ty75 (look_t rfl) (hL _ _ rfl rfl) rfl rfl) rfl, fun L' hL => HO.v (r_move (look_t rfl)) rfl, fun L' hL => HO.v (r_ias (k := k4) Try.underlying75 ty127 (look_t rfl) (look_t rfl) (idx_some hk4)) rfl, fun L' hL => HO.v (r_fap le_T_api_Field_Bits fd127_2 (look_t rfl) rfl rfl) rfl, fun L' hL => HO.v (r_loadp ty3 (look_t rfl)) rfl, fun L' hL => HO.v (r_call en82 (C_cube_fixed hy3) ⟨look_t rfl, look_t rfl, look_t rfl, trivial⟩) rfl, fun L' hL => HO.v (r_fa fd28_1 (look_t rfl)) rfl, fun L' hL => HO.v (r_ia (k := k5) ar26 (look_t rfl) (look_t rfl) (idx_some hk5)) rfl, trivial⟩) fun ps1 => ?_
          refine Sq.store (i := 1) (((Lens.id T_cube_Cube).comp le_T_cube_Cube_Mask).comp (Lens.idx (α := T_api_Value) 4 k5 (idx_some hk5).1)) (v := (y3 : T_api_Value)) (b' := (({ s1.2 with f_Mask := vset s1.2.f_Mask k5 y3 } : T_cube_Cube) : T_cube_Cube)) ty24 (look_t rfl) (look_t rfl) rfl rfl rfl ?_
          refine Sq.nil ?_
          refine To.next ?_
          obtain ⟨k6, hk6, h⟩ := bind_some h
          obtain ⟨k7, hk7, h⟩ := bind_some h
          obtain ⟨z3, hz3, h⟩ := bind_some h
          obtain ⟨y4, hy4, h⟩ := bind_some h
          obtain ⟨k8, hk8, h⟩ := bind_some h
          refine Wp.draw mixed 14 [some 70, some 71, some 72, some 73, some 74, some 75, some 76, some 77, some 78, some 79, some 80, some 81, some 82, some 83] [[], [], [1], [], [2, 3], [4], [5], [], [], [7, 8], [9], [6, 10], [], [0, 12]] [.val (VP.of (s1.1)), .val (VP.eq (.pointer (some ⟨p2, 0 + 1, none⟩))), .val (VP.of (x1.f_Matches)), .val (VP.of (s1.1)), .val (VP.ptr (lget x1.f_Matches k6)), .val (VP.ptr ((lget x1.f_Matches k6).f_Value)), .val (VP.of ((lget x1.f_Matches k6).f_Value)), .val (VP.of (s1.1)), .val (VP.eq (.pointer (some ⟨p4, 0 + 8, none⟩))), .val (VP.eq (.pointer (some ⟨p4, 0 + 8 + k7 * 2, none⟩))), .val (VP.of (z3)), .val (VP.of (y4)), .val (VP.eq (.pointer (some ⟨p4, 0 + 0, none⟩))), .val (VP.eq (.pointer (some ⟨p4, 0 + 0 + k8 * 2, none⟩)))] [false, false, false, false, false, false, false, false, false, false, false, false, false, false] (by kernel_rfl) rfl rfl rfl (fun ps2 => ⟨fun L' hL => HO.v (r_move (look_t rfl)) rfl, fun L' hL => HO.v (r_fa fd91_1 (look_t rfl)) rfl, fun L' hL => HO.v (r_load (i := 3) ((Lens.id T_api_Entry).comp le_T_api_Entry_Matches) (r := x1.f_Matches) ty88 (look_t rfl) (hL _ _ rfl rfl) rfl rfl) rfl, fun L' hL => HO.v (r_move (look_t rfl)) rfl, fun L' hL => HO.v (r_ias (k := k6) Try.underlying88 ty141 (look_t rfl) (look_t rfl) (idx_some hk6)) rfl, fun L' hL => HO.v (r_fap le_T_api_Match_Value fd141_1 (look_t rfl) rfl rfl) rfl, fun L' hL => HO.v (r_loadp ty24 (look_t rfl)) rfl, fun L' hL => HO.v (r_move (look_t rfl)) rfl, fun L' hL => HO.v (r_fa fd28_1 (look_t rfl)) rfl, fun L' hL => HO.v (r_ia (k := k7) ar26 (look_t rfl) (look_t rfl) (idx_some hk7)) rfl, fun L' hL => HO.v ((r_load (i := 1) (((Lens.id T_cube_Cube).comp le_T_cube_Cube_Mask).comp (Lens.idx (α := T_api_Value) 4 k7 (idx_some hk7).1)) (r := vget (({ s1.2 with f_Mask := vset s1.2.f_Mask k5 y3 } : T_cube_Cube).f_Mask) k7) ty24 (look_t rfl) (hL _ _ rfl rfl) rfl rfl).as (some_in hz3)) rfl, fun L' hL => HO.v (r_call en56 (C_value_And hy4) ⟨look_t rfl, look_t rfl, trivial⟩) rfl, fun L' hL => HO.v (r_fa fd28_0 (look_t rfl)) rfl, fun L' hL => HO.v (r_ia (k := k8) ar26 (look_t rfl) (look_t rfl) (idx_some hk8)) rfl, trivial⟩) fun ps2 => ?_
          obtain ⟨z4, hz4, h⟩ := bind_some h
          refine Sq.store (i := 1) (((Lens.id T_cube_Cube).comp le_T_cube_Cube_Value).comp (Lens.idx (α := T_api_Value) 4 k8 (idx_some hk8).1)) (v := (y4 : T_api_Value)) (b' := (z4 : T_cube_Cube)) ty24 (look_t rfl) (look_t rfl) rfl rfl (some_in hz4) ?_
          refine Sq.nil ?_
          refine To.bnorm ?_
          refine To.next ?_
          refine Wp.reg ?_
          refine Sq.v (r_add (look_t rfl) (look_int 1)) rfl rfl rfl ?_
          refine Sq.v (r_move (look_t rfl)) rfl rfl rfl ?_
          refine Sq.nil ?_
          replace h := some_in h
          subst h
          exact To.roundG () 1 rfl (.same rfl (.same rfl (.same rfl (.same rfl (.same rfl (.same rfl (.same rfl (.same rfl (.same rfl (.same rfl (.same rfl (.same rfl .nil))))))))))))
      · replace h := cond_f hc h
        refine Wp.exit ?_
        refine To.exit ?_
        replace h := some_in h
        subst h
        exact To.leaveG () 0 rfl (by simp) rfl (.same rfl (.same rfl (.same rfl (.same rfl (.same rfl (.same rfl (.same rfl (.same rfl (.same rfl (.same rfl (.same rfl (.same rfl (.same rfl .nil)))))))))))))
    · clear hl
      rcases e1 with e1 | e1
      · simp only [Sum.elim_inl] at h
        refine To.bexit ?_
        refine To.next ?_
        refine Wp.seq ?_
        refine Wp.reg ?_
        refine Sq.v (r_load (i := 0) (Lens.id T_cube_Cube) (r := e1.2.2) ty28 (look_t rfl) rfl rfl rfl) rfl rfl rfl ?_
        refine Sq.store (i := 1) (Lens.id T_cube_Cube) (v := (e1.2.2 : T_cube_Cube)) (b' := (e1.2.2 : T_cube_Cube)) ty28 (look_t rfl) (look_t rfl) rfl rfl rfl ?_
        refine Sq.v (r_asg (look_bool true)) rfl rfl rfl ?_
        refine Sq.nil ?_
        refine To.next ?_
        refine Wp.ret ?_
        replace h := some_in h
        subst h
        exact To.end2 rfl (rv_c (i := 1) ty28 rfl rfl) (rv_t rfl)
      · simp only [Sum.elim_inr] at h
        refine To.bret ?_
        refine To.ret ?_
        replace h := some_in h
        subst h
        exact To.end2 rfl (rv_c (i := 1) ty28 rfl rfl) (rv_t rfl)
end Go.Proofs.Ytabodolbdalimaa
