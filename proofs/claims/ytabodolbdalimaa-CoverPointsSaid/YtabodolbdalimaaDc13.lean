/-
  Printed by the decompiler (dec.py) out of the seat's translation. Each function meets its functional program. Conditions: none.
-/
import Derived.Test.YtabodolbdalimaaDc1
import Derived.Test.YtabodolbdalimaaDc4
import Derived.Test.YtabodolbdalimaaDc5
import Derived.Test.YtabodolbdalimaaDc7
import Derived.Test.YtabodolbdalimaaDc8
import Derived.Test.YtabodolbdalimaaDc12
namespace Go.Proofs.Ytabodolbdalimaa
open Go Gv
set_option linter.unusedVariables false
set_option linter.unusedSimpArgs false
set_option maxRecDepth 100000
set_option maxHeartbeats 2000000 in
theorem C_law26_CoverPoints {x0 : List (BitVec 16)} {x1 : List (BitVec 16)} {x2 : Vector T_api_Value 4}  {r : Bool} (h : L_law26_CoverPoints x0 x1 x2 = some r) : Meets Try.prog 9 [VP.of (x0), VP.of (x1), VP.of (x2)] (VP.of (r)) := by
  unfold L_law26_CoverPoints at h
  refine Meets.of Try.func9 rfl Try.ntmps9 rfl fun W A => ?_
  refine Wp.seq ?_
  refine Wp.reg ?_
  refine Sq.box (z := (x2 : Vector T_api_Value 4)) (look_t rfl) rfl fun p1 => ?_
  refine Sq.v (r_asg (look_bool false)) rfl rfl rfl ?_
  refine Sq.nil ?_
  refine To.next ?_
  refine Wp.seq ?_
  refine Wp.reg ?_
  refine Sq.v (r_move (look_t rfl)) rfl rfl rfl ?_
  obtain ⟨y1, hy1, h⟩ := bind_some h
  refine Sq.v (r_call en32 (C_law26_made hy1) ⟨look_t rfl, look_int 16, trivial⟩) rfl rfl rfl ?_
  refine Sq.v (r_asg (look_t rfl)) rfl rfl rfl ?_
  refine Sq.nil ?_
  refine To.next ?_
  refine Wp.seq ?_
  refine Wp.seq ?_
  refine Wp.reg ?_
  refine Sq.v (r_move (look_t rfl)) rfl rfl rfl ?_
  obtain ⟨y2, hy2, h⟩ := bind_some h
  refine Sq.callO (Lin := []) (Lr := [⟨some p1, .var (x2 : Vector T_api_Value 4)⟩]) en32 (Co_law26_made hy2) ⟨look_t rfl, look_int 2, trivial⟩ rfl fun q1 => ?_
  refine Sq.v (r_build (b := (default : T_cube_Cube)) rfl bu28 zr28 (.nil)) rfl rfl rfl ?_
  refine Sq.v (r_bsl (r := [(default : T_cube_Cube)]) Try.underlying31 ty28 zr28 rfl rfl (.cons (by simp) (look_t rfl) (.nil))) rfl rfl rfl ?_
  obtain ⟨y3, hy3, h⟩ := bind_some h
  refine Sq.app (i := 0) Try.underlying31 ty28 zr28 (bytes := 128) (by kernel_rfl) (look_t rfl) rfl (look_t rfl) hy3 rfl fun key1 cap1 => ?_
  refine Sq.v (r_lenO (i := 0) Try.underlying31 (look_t rfl) rfl rfl) rfl rfl rfl ?_
  refine Sq.v (r_move (look_int 0)) rfl rfl rfl ?_
  refine Sq.nil ?_
  refine To.next ?_
  refine Wp.block ?_
  obtain ⟨e1, hl, h⟩ := bind_some h
  refine Wp.loopG (σ := Int × (Vector T_api_Value 4)) (ε := (Int × Bool × (Vector T_api_Value 4)) ⊕ (Bool × Int × Bool × Int × Bool × Int × Bool × (List T_cube_Cube) × Int × Int × Bool × Bool × (Vector T_api_Value 4))) (γ := Unit) (δ := Unit) hl (fun s1 g1 => [(0, VP.of (x0)), (1, VP.of (x1)), (2, VP.of (x2)), (5, VP.eq (.pointer (some ⟨p1, 0, none⟩))), (6, VP.of (false)), (7, VP.of (y1)), (22, VP.eq (slv key1 y3.length cap1)), (23, VP.of (y3.length : Int)), (24, VP.of (s1.1))]) (fun s1 g1 => [⟨key1, .row 28 (y3 : List T_cube_Cube) cap1⟩, ⟨some p1, .var (s1.2 : Vector T_api_Value 4)⟩]) (fun q2 => Sum.elim (fun q2 => Exit.exit 0) (fun q2 => Exit.ret) q2) (fun q2 g1 => Sum.elim (fun q2 => [(0, VP.of (x0)), (1, VP.of (x1)), (2, VP.of (x2)), (5, VP.eq (.pointer (some ⟨p1, 0, none⟩))), (6, VP.of (false)), (7, VP.of (y1)), (22, VP.eq (slv key1 y3.length cap1)), (23, VP.of (y3.length : Int)), (24, VP.of (q2.1)), (25, VP.of (q2.2.1))]) (fun q2 => [(0, VP.of (x0)), (1, VP.of (x1)), (2, VP.of (x2)), (5, VP.eq (.pointer (some ⟨p1, 0, none⟩))), (6, VP.of (false)), (7, VP.of (y1)), (10, VP.of (q2.1)), (11, VP.of (q2.2.1)), (13, VP.of (q2.2.2.1)), (22, VP.eq (slv key1 y3.length cap1)), (23, VP.of (y3.length : Int)), (24, VP.of (q2.2.2.2.1)), (25, VP.of (q2.2.2.2.2.1)), (34, VP.of (q2.2.2.2.2.2.1)), (35, VP.of (q2.2.2.2.2.2.2.1)), (76, VP.of (q2.2.2.2.2.2.2.2.1)), (77, VP.of (q2.2.2.2.2.2.2.2.2.1)), (78, VP.of (q2.2.2.2.2.2.2.2.2.2.1)), (79, VP.of (q2.2.2.2.2.2.2.2.2.2.2.1)), (97, VP.of (q2.2.2.2.2.2.2.2.2.2.2.2.1))]) q2) (fun q2 g1 => Sum.elim (fun q2 => [⟨key1, .row 28 (y3 : List T_cube_Cube) cap1⟩, ⟨some p1, .var (q2.2.2 : Vector T_api_Value 4)⟩]) (fun q2 => [⟨key1, .row 28 (y3 : List T_cube_Cube) cap1⟩, ⟨some p1, .var (q2.2.2.2.2.2.2.2.2.2.2.2.2 : Vector T_api_Value 4)⟩]) q2) () rfl (.same rfl (.same rfl (.same rfl (.same rfl (.same rfl (.same rfl (.same rfl (.same rfl (.same rfl .nil))))))))) (fun s1 r h g1 => ?_) (fun g1 => ?_)
  · clear hl
    refine Wp.seq ?_
    refine Wp.reg ?_
    refine Sq.v (r_lss (look_t rfl) (look_t rfl)) rfl rfl rfl ?_
    refine Sq.nil ?_
    refine To.next ?_
    refine Wp.seq ?_
    refine Wp.cond (look_t rfl) (fun hc => ?_) (fun hc => ?_)
    · replace h := cond_t hc h
      refine Wp.skip ?_
      refine To.next ?_
      refine Wp.seq ?_
      refine Wp.block ?_
      refine Wp.seq ?_
      refine Wp.reg ?_
      obtain ⟨k1, hk1, h⟩ := bind_some h
      refine Sq.v (r_iaO (i := 0) (k := k1) (xs := (y3 : List T_cube_Cube)) Try.underlying31 ty28 (look_t rfl) (look_t rfl) rfl (idx_some hk1)) rfl rfl rfl ?_
      refine Sq.v (r_loadR (i := 0) (k := k1) (Lens.id T_cube_Cube) (r := (lget y3 k1)) ty28 (look_t rfl) rfl (idx_some hk1).1 rfl rfl) rfl rfl rfl ?_
      refine Sq.alloc zr28 rfl fun p2 => ?_
      refine Sq.store (i := 0) (Lens.id T_cube_Cube) (v := ((lget y3 k1) : T_cube_Cube)) (b' := ((lget y3 k1) : T_cube_Cube)) ty28 (look_t rfl) (look_t rfl) rfl rfl rfl ?_
      refine Sq.nil ?_
      refine To.next ?_
      refine Wp.seq ?_
      refine Wp.reg ?_
      refine Sq.v (r_load (i := 0) (Lens.id T_cube_Cube) (r := (lget y3 k1)) ty28 (look_t rfl) rfl rfl rfl) rfl rfl rfl ?_
      refine Sq.v (r_move (look_t rfl)) rfl rfl rfl ?_
      obtain ⟨y4, hy4, h⟩ := bind_some h
      refine Sq.v (r_call en33 (C_cover_Covered hy4) ⟨look_t rfl, look_t rfl, trivial⟩) rfl rfl rfl ?_
      refine Sq.v (r_move (look_t rfl)) rfl rfl rfl ?_
      refine Sq.v (r_ext (look_t rfl) rfl) rfl rfl rfl ?_
      refine Sq.v (r_ext (look_t rfl) rfl) rfl rfl rfl ?_
      refine Sq.v (r_asg (look_t rfl)) rfl rfl rfl ?_
      refine Sq.v (r_asg (look_t rfl)) rfl rfl rfl ?_
      refine Sq.nil ?_
      refine To.next ?_
      refine Wp.seq ?_
      refine Wp.seq ?_
      refine Wp.reg ?_
      refine Sq.v (r_move (look_int 0)) rfl rfl rfl ?_
      refine Sq.nil ?_
      refine To.next ?_
      refine Wp.block ?_
      obtain ⟨e2, hl, h⟩ := bind_some h
      refine Wp.loopG (σ := Int × (Vector T_api_Value 4)) (ε := (Int × Bool × (Vector T_api_Value 4))) (γ := Unit) (δ := Unit) hl (fun s2 g2 => [(0, VP.of (x0)), (1, VP.of (x1)), (2, VP.of (x2)), (5, VP.eq (.pointer (some ⟨p1, 0, none⟩))), (6, VP.of (false)), (7, VP.of (y1)), (9, VP.eq (.pointer (some ⟨p2, 0, none⟩))), (10, VP.of (y4.1)), (11, VP.of (y4.2)), (22, VP.eq (slv key1 y3.length cap1)), (23, VP.of (y3.length : Int)), (24, VP.of (s1.1)), (25, VP.of (decide (s1.1 < (y3.length : Int)))), (34, VP.of (s2.1))]) (fun s2 g2 => [⟨some p2, .var ((lget y3 k1) : T_cube_Cube)⟩, ⟨key1, .row 28 (y3 : List T_cube_Cube) cap1⟩, ⟨some p1, .var (s2.2 : Vector T_api_Value 4)⟩]) (fun q3 => Exit.exit 2) (fun q3 g2 => [(0, VP.of (x0)), (1, VP.of (x1)), (2, VP.of (x2)), (5, VP.eq (.pointer (some ⟨p1, 0, none⟩))), (6, VP.of (false)), (7, VP.of (y1)), (9, VP.eq (.pointer (some ⟨p2, 0, none⟩))), (10, VP.of (y4.1)), (11, VP.of (y4.2)), (22, VP.eq (slv key1 y3.length cap1)), (23, VP.of (y3.length : Int)), (24, VP.of (s1.1)), (25, VP.of (decide (s1.1 < (y3.length : Int)))), (34, VP.of (q3.1)), (35, VP.of (q3.2.1))]) (fun q3 g2 => [⟨some p2, .var ((lget y3 k1) : T_cube_Cube)⟩, ⟨key1, .row 28 (y3 : List T_cube_Cube) cap1⟩, ⟨some p1, .var (q3.2.2 : Vector T_api_Value 4)⟩]) () rfl (.same rfl (.same rfl (.same rfl (.same rfl (.same rfl (.same rfl (.same rfl (.same rfl (.same rfl (.same rfl (.same rfl (.same rfl (.same rfl (.same rfl .nil)))))))))))))) (fun s2 r h g2 => ?_) (fun g2 => ?_)
      · clear hl
        refine Wp.seq ?_
        refine Wp.reg ?_
        refine Sq.v (r_lss (look_t rfl) (look_int 4)) rfl rfl rfl ?_
        refine Sq.nil ?_
        refine To.next ?_
        refine Wp.seq ?_
        refine Wp.cond (look_t rfl) (fun hc => ?_) (fun hc => ?_)
        · replace h := cond_t hc h
          refine Wp.skip ?_
          refine To.next ?_
          refine Wp.seq ?_
          refine Wp.block ?_
          refine Wp.seq ?_
          refine Wp.reg ?_
          refine Sq.v (r_move (look_t rfl)) rfl rfl rfl ?_
          refine Sq.v (r_asg (look_t rfl)) rfl rfl rfl ?_
          refine Sq.nil ?_
          refine To.next ?_
          obtain ⟨k2, hk2, h⟩ := bind_some h
          obtain ⟨k3, hk3, h⟩ := bind_some h
          obtain ⟨k4, hk4, h⟩ := bind_some h
          obtain ⟨z1, hz1, h⟩ := bind_some h
          obtain ⟨k5, hk5, h⟩ := bind_some h
          obtain ⟨k6, hk6, h⟩ := bind_some h
          obtain ⟨k7, hk7, h⟩ := bind_some h
          obtain ⟨z2, hz2, h⟩ := bind_some h
          obtain ⟨k8, hk8, h⟩ := bind_some h
          refine Wp.draw mixed 37 ((some 37) :: (some 38) :: (some 39) :: (some 40) :: (some 41) :: (some 42) :: (some 43) :: (some 44) :: (some 45) :: (some 46) :: (some 47) :: (some 48) :: (some 49) :: (some 50) :: (some 51) :: (some 52) :: (some 53) :: (some 54) :: (some 55) :: (some 56) :: (some 57) :: (some 58) :: (some 59) :: (some 60) :: (some 61) :: (some 62) :: (some 63) :: (some 64) :: (some 65) :: (some 66) :: (some 67) :: (some 68) :: (some 69) :: (some 70) :: (some 71) :: (some 72) :: none :: []) ([] :: [] :: [] :: [2] :: [3] :: [4] :: [] :: [] :: [6, 7] :: [8] :: [9] :: [5, 10] :: [] :: [] :: [12, 13] :: [14] :: [15] :: [11, 16] :: [] :: [18] :: [19] :: [20] :: [] :: [] :: [22, 23] :: [24] :: [25] :: [21, 26] :: [] :: [] :: [28, 29] :: [30] :: [31] :: [27, 32] :: [0] :: [34] :: [17, 35] :: []) (.val (VP.of (s2.1)) :: .val (VP.of (s2.1)) :: .val (VP.of (s2.1)) :: .val (VP.eq (.pointer (some ⟨p1, 0 + k2 * 2, none⟩))) :: .val (VP.eq (.pointer (some ⟨p1, 0 + k2 * 2 + 0, none⟩))) :: .val (VP.of ((vget s2.2 k2).f_Hi)) :: .val (VP.of (s2.1)) :: .val (VP.eq (.pointer (some ⟨p2, 0 + 8, none⟩))) :: .val (VP.eq (.pointer (some ⟨p2, 0 + 8 + k3 * 2, none⟩))) :: .val (VP.eq (.pointer (some ⟨p2, 0 + 8 + k3 * 2 + 0, none⟩))) :: .val (VP.of ((vget ((lget y3 k1).f_Mask) k3).f_Hi)) :: .val (VP.of (((vget s2.2 k2).f_Hi) &&& ~~~((vget ((lget y3 k1).f_Mask) k3).f_Hi))) :: .val (VP.of (s2.1)) :: .val (VP.eq (.pointer (some ⟨p2, 0 + 0, none⟩))) :: .val (VP.eq (.pointer (some ⟨p2, 0 + 0 + k4 * 2, none⟩))) :: .val (VP.eq (.pointer (some ⟨p2, 0 + 0 + k4 * 2 + 0, none⟩))) :: .val (VP.of ((vget ((lget y3 k1).f_Value) k4).f_Hi)) :: .val (VP.of (z1)) :: .val (VP.of (s2.1)) :: .val (VP.eq (.pointer (some ⟨p1, 0 + k5 * 2, none⟩))) :: .val (VP.eq (.pointer (some ⟨p1, 0 + k5 * 2 + 1, none⟩))) :: .val (VP.of ((vget s2.2 k5).f_Lo)) :: .val (VP.of (s2.1)) :: .val (VP.eq (.pointer (some ⟨p2, 0 + 8, none⟩))) :: .val (VP.eq (.pointer (some ⟨p2, 0 + 8 + k6 * 2, none⟩))) :: .val (VP.eq (.pointer (some ⟨p2, 0 + 8 + k6 * 2 + 1, none⟩))) :: .val (VP.of ((vget ((lget y3 k1).f_Mask) k6).f_Lo)) :: .val (VP.of (((vget s2.2 k5).f_Lo) &&& ~~~((vget ((lget y3 k1).f_Mask) k6).f_Lo))) :: .val (VP.of (s2.1)) :: .val (VP.eq (.pointer (some ⟨p2, 0 + 0, none⟩))) :: .val (VP.eq (.pointer (some ⟨p2, 0 + 0 + k7 * 2, none⟩))) :: .val (VP.eq (.pointer (some ⟨p2, 0 + 0 + k7 * 2 + 1, none⟩))) :: .val (VP.of ((vget ((lget y3 k1).f_Value) k7).f_Lo)) :: .val (VP.of (z2)) :: .val (VP.eq (.pointer (some ⟨p1, 0 + k8 * 2, none⟩))) :: .val (VP.eq (.pointer (some ⟨p1, 0 + k8 * 2 + 0, none⟩))) :: .sto 2 (.var (vset s2.2 k8 ({ (vget s2.2 k8) with f_Hi := z1 }) : Vector T_api_Value 4)) :: []) (false :: false :: false :: false :: false :: false :: false :: false :: false :: false :: false :: false :: false :: false :: false :: false :: false :: false :: false :: false :: false :: false :: false :: false :: false :: false :: false :: false :: false :: false :: false :: false :: false :: false :: false :: false :: true :: []) (by kernel_rfl) rfl rfl rfl (fun ps1 => ⟨fun L' hL => HO.v (r_move (look_t rfl)) rfl, fun L' hL => HO.v (r_move (look_t rfl)) rfl, fun L' hL => HO.v (r_move (look_t rfl)) rfl, fun L' hL => HO.v (r_ia (k := k2) ar26 (look_t rfl) (look_t rfl) (idx_some hk2)) rfl, fun L' hL => HO.v (r_fa fd24_0 (look_t rfl)) rfl, fun L' hL => HO.v (r_load (i := 2) (((Lens.id (Vector T_api_Value 4)).comp (Lens.idx (α := T_api_Value) 4 k2 (idx_some hk2).1)).comp le_T_api_Value_Hi) (r := (vget s2.2 k2).f_Hi) ty22 (look_t rfl) (hL _ _ rfl (by kernel_rfl)) rfl rfl) rfl, fun L' hL => HO.v (r_move (look_t rfl)) rfl, fun L' hL => HO.v (r_fa fd28_1 (look_t rfl)) rfl, fun L' hL => HO.v (r_ia (k := k3) ar26 (look_t rfl) (look_t rfl) (idx_some hk3)) rfl, fun L' hL => HO.v (r_fa fd24_0 (look_t rfl)) rfl, fun L' hL => HO.v (r_load (i := 0) ((((Lens.id T_cube_Cube).comp le_T_cube_Cube_Mask).comp (Lens.idx (α := T_api_Value) 4 k3 (idx_some hk3).1)).comp le_T_api_Value_Hi) (r := (vget ((lget y3 k1).f_Mask) k3).f_Hi) ty22 (look_t rfl) (hL _ _ rfl (by kernel_rfl)) rfl rfl) rfl, fun L' hL => HO.v (r_andNot64 (look_t rfl) (look_t rfl)) rfl, fun L' hL => HO.v (r_move (look_t rfl)) rfl, fun L' hL => HO.v (r_fa fd28_0 (look_t rfl)) rfl, fun L' hL => HO.v (r_ia (k := k4) ar26 (look_t rfl) (look_t rfl) (idx_some hk4)) rfl, fun L' hL => HO.v (r_fa fd24_0 (look_t rfl)) rfl, fun L' hL => HO.v (r_load (i := 0) ((((Lens.id T_cube_Cube).comp le_T_cube_Cube_Value).comp (Lens.idx (α := T_api_Value) 4 k4 (idx_some hk4).1)).comp le_T_api_Value_Hi) (r := (vget ((lget y3 k1).f_Value) k4).f_Hi) ty22 (look_t rfl) (hL _ _ rfl (by kernel_rfl)) rfl rfl) rfl, fun L' hL => HO.v ((r_or64 (look_t rfl) (look_t rfl)).as (some_in hz1)) rfl, fun L' hL => HO.v (r_move (look_t rfl)) rfl, fun L' hL => HO.v (r_ia (k := k5) ar26 (look_t rfl) (look_t rfl) (idx_some hk5)) rfl, fun L' hL => HO.v (r_fa fd24_1 (look_t rfl)) rfl, fun L' hL => HO.v (r_load (i := 2) (((Lens.id (Vector T_api_Value 4)).comp (Lens.idx (α := T_api_Value) 4 k5 (idx_some hk5).1)).comp le_T_api_Value_Lo) (r := (vget s2.2 k5).f_Lo) ty22 (look_t rfl) (hL _ _ rfl (by kernel_rfl)) rfl rfl) rfl, fun L' hL => HO.v (r_move (look_t rfl)) rfl, fun L' hL => HO.v (r_fa fd28_1 (look_t rfl)) rfl, fun L' hL => HO.v (r_ia (k := k6) ar26 (look_t rfl) (look_t rfl) (idx_some hk6)) rfl, fun L' hL => HO.v (r_fa fd24_1 (look_t rfl)) rfl, fun L' hL => HO.v (r_load (i := 0) ((((Lens.id T_cube_Cube).comp le_T_cube_Cube_Mask).comp (Lens.idx (α := T_api_Value) 4 k6 (idx_some hk6).1)).comp le_T_api_Value_Lo) (r := (vget ((lget y3 k1).f_Mask) k6).f_Lo) ty22 (look_t rfl) (hL _ _ rfl (by kernel_rfl)) rfl rfl) rfl, fun L' hL => HO.v (r_andNot64 (look_t rfl) (look_t rfl)) rfl, fun L' hL => HO.v (r_move (look_t rfl)) rfl, fun L' hL => HO.v (r_fa fd28_0 (look_t rfl)) rfl, fun L' hL => HO.v (r_ia (k := k7) ar26 (look_t rfl) (look_t rfl) (idx_some hk7)) rfl, fun L' hL => HO.v (r_fa fd24_1 (look_t rfl)) rfl, fun L' hL => HO.v (r_load (i := 0) ((((Lens.id T_cube_Cube).comp le_T_cube_Cube_Value).comp (Lens.idx (α := T_api_Value) 4 k7 (idx_some hk7).1)).comp le_T_api_Value_Lo) (r := (vget ((lget y3 k1).f_Value) k7).f_Lo) ty22 (look_t rfl) (hL _ _ rfl (by kernel_rfl)) rfl rfl) rfl, fun L' hL => HO.v ((r_or64 (look_t rfl) (look_t rfl)).as (some_in hz2)) rfl, fun L' hL => HO.v (r_ia (k := k8) ar26 (look_t rfl) (look_t rfl) (idx_some hk8)) rfl, fun L' hL => HO.v (r_fa fd24_0 (look_t rfl)) rfl, ⟨_, _, rfl, fun L' hL => so_var (i := 2) (((Lens.id (Vector T_api_Value 4)).comp (Lens.idx (α := T_api_Value) 4 k8 (idx_some hk8).1)).comp le_T_api_Value_Hi) (v := (z1 : BitVec 64)) (b' := (vset s2.2 k8 ({ (vget s2.2 k8) with f_Hi := z1 }) : Vector T_api_Value 4)) ty22 (look_t rfl) (look_t rfl) (hL _ _ rfl) rfl rfl⟩, trivial⟩) fun ps1 => ?_
          obtain ⟨k9, hk9, h⟩ := bind_some h
          refine Sq.v (r_ia (k := k9) ar26 (look_t rfl) (look_t rfl) (idx_some hk9)) rfl rfl rfl ?_
          refine Sq.v (r_fa fd24_1 (look_t rfl)) rfl rfl rfl ?_
          obtain ⟨z3, hz3, h⟩ := bind_some h
          refine Sq.store (i := 2) (((Lens.id (Vector T_api_Value 4)).comp (Lens.idx (α := T_api_Value) 4 k9 (idx_some hk9).1)).comp le_T_api_Value_Lo) (v := (z2 : BitVec 64)) (b' := (z3 : Vector T_api_Value 4)) ty22 (look_t rfl) (look_t rfl) rfl rfl (some_in hz3) ?_
          refine Sq.nil ?_
          refine To.bnorm ?_
          refine To.next ?_
          refine Wp.reg ?_
          refine Sq.v (r_add (look_t rfl) (look_int 1)) rfl rfl rfl ?_
          refine Sq.v (r_move (look_t rfl)) rfl rfl rfl ?_
          refine Sq.nil ?_
          replace h := some_in h
          subst h
          exact To.roundG () 0 rfl (.same rfl (.same rfl (.same rfl (.same rfl (.same rfl (.same rfl (.same rfl (.same rfl (.same rfl (.same rfl (.same rfl (.same rfl (.same rfl (.same rfl .nil))))))))))))))
        · replace h := cond_f hc h
          refine Wp.exit ?_
          refine To.exit ?_
          replace h := some_in h
          subst h
          exact To.leaveG () 0 rfl (by simp) rfl (.same rfl (.same rfl (.same rfl (.same rfl (.same rfl (.same rfl (.same rfl (.same rfl (.same rfl (.same rfl (.same rfl (.same rfl (.same rfl (.same rfl (.same rfl .nil)))))))))))))))
      · clear hl
        refine To.bexit ?_
        refine To.next ?_
        refine Wp.seq ?_
        refine Wp.reg ?_
        refine Sq.v (r_asg (look_bool false)) rfl rfl rfl ?_
        refine Sq.nil ?_
        refine To.next ?_
        refine Wp.seq ?_
        refine Wp.seq ?_
        refine Wp.reg ?_
        refine Sq.v (r_move (look_t rfl)) rfl rfl rfl ?_
        refine Sq.v (r_len Try.underlying31 (look_t rfl)) rfl rfl rfl ?_
        refine Sq.v (r_move (look_int 0)) rfl rfl rfl ?_
        refine Sq.nil ?_
        refine To.next ?_
        refine Wp.block ?_
        obtain ⟨e3, hl, h⟩ := bind_some h
        refine Wp.loopG (σ := Bool × Int) (ε := (Bool × Int × Bool)) (γ := Unit) (δ := Unit) hl (fun s3 g3 => [(0, VP.of (x0)), (1, VP.of (x1)), (2, VP.of (x2)), (5, VP.eq (.pointer (some ⟨p1, 0, none⟩))), (6, VP.of (false)), (7, VP.of (y1)), (9, VP.eq (.pointer (some ⟨p2, 0, none⟩))), (10, VP.of (y4.1)), (11, VP.of (y4.2)), (13, VP.of (s3.1)), (22, VP.eq (slv key1 y3.length cap1)), (23, VP.of (y3.length : Int)), (24, VP.of (s1.1)), (25, VP.of (decide (s1.1 < (y3.length : Int)))), (34, VP.of (e2.1)), (35, VP.of (e2.2.1)), (76, VP.of (y1)), (77, VP.of (y1.length : Int)), (78, VP.of (s3.2))]) (fun s3 g3 => [⟨some p2, .var ((lget y3 k1) : T_cube_Cube)⟩, ⟨key1, .row 28 (y3 : List T_cube_Cube) cap1⟩, ⟨some p1, .var (e2.2.2 : Vector T_api_Value 4)⟩]) (fun q4 => Exit.exit 4) (fun q4 g3 => [(0, VP.of (x0)), (1, VP.of (x1)), (2, VP.of (x2)), (5, VP.eq (.pointer (some ⟨p1, 0, none⟩))), (6, VP.of (false)), (7, VP.of (y1)), (9, VP.eq (.pointer (some ⟨p2, 0, none⟩))), (10, VP.of (y4.1)), (11, VP.of (y4.2)), (13, VP.of (q4.1)), (22, VP.eq (slv key1 y3.length cap1)), (23, VP.of (y3.length : Int)), (24, VP.of (s1.1)), (25, VP.of (decide (s1.1 < (y3.length : Int)))), (34, VP.of (e2.1)), (35, VP.of (e2.2.1)), (76, VP.of (y1)), (77, VP.of (y1.length : Int)), (78, VP.of (q4.2.1)), (79, VP.of (q4.2.2))]) (fun q4 g3 => [⟨some p2, .var ((lget y3 k1) : T_cube_Cube)⟩, ⟨key1, .row 28 (y3 : List T_cube_Cube) cap1⟩, ⟨some p1, .var (e2.2.2 : Vector T_api_Value 4)⟩]) () rfl (.same rfl (.same rfl (.same rfl (.same rfl (.same rfl (.same rfl (.same rfl (.same rfl (.same rfl (.same rfl (.same rfl (.same rfl (.same rfl (.same rfl (.same rfl (.same rfl (.same rfl (.same rfl (.same rfl .nil))))))))))))))))))) (fun s3 r h g3 => ?_) (fun g3 => ?_)
        · clear hl
          refine Wp.seq ?_
          refine Wp.reg ?_
          refine Sq.v (r_lss (look_t rfl) (look_t rfl)) rfl rfl rfl ?_
          refine Sq.nil ?_
          refine To.next ?_
          refine Wp.seq ?_
          refine Wp.cond (look_t rfl) (fun hc => ?_) (fun hc => ?_)
          · replace h := cond_t hc h
            refine Wp.skip ?_
            refine To.next ?_
            refine Wp.seq ?_
            refine Wp.block ?_
            refine Wp.seq ?_
            refine Wp.reg ?_
            obtain ⟨k10, hk10, h⟩ := bind_some h
            refine Sq.v (r_ias (k := k10) Try.underlying31 ty28 (look_t rfl) (look_t rfl) (idx_some hk10)) rfl rfl rfl ?_
            refine Sq.v (r_loadp ty28 (look_t rfl)) rfl rfl rfl ?_
            refine Sq.alloc zr28 rfl fun p3 => ?_
            refine Sq.store (i := 0) (Lens.id T_cube_Cube) (v := (lget y1 k10 : T_cube_Cube)) (b' := (lget y1 k10 : T_cube_Cube)) ty28 (look_t rfl) (look_t rfl) rfl rfl rfl ?_
            refine Sq.nil ?_
            refine To.next ?_
            refine Wp.reg ?_
            refine Sq.v (r_move (look_t rfl)) rfl rfl rfl ?_
            refine Sq.v (r_move (look_t rfl)) rfl rfl rfl ?_
            refine Sq.g (fun hb => r_load (i := 0) (Lens.id T_cube_Cube) (r := (lget y1 k10)) ty28 (look_t rfl) rfl rfl rfl) rfl rfl rfl rfl rfl ?_
            refine Sq.g (fun hb => r_load (i := 3) (Lens.id (Vector T_api_Value 4)) (r := e2.2.2) ty26 (look_t rfl) rfl rfl rfl) rfl rfl rfl rfl rfl ?_
            obtain ⟨y5, hy5, h⟩ := bind_some h
            refine Sq.g (fun hb => r_call en25 (C_cube_Contains (condM_some hy5 hb)) ⟨look_tc rfl hb, look_tc rfl hb, trivial⟩) rfl rfl rfl rfl rfl ?_
            refine Sq.v (r_or (look_t rfl) (look_t rfl) (fun h => h)) rfl rfl rfl ?_
            refine Sq.v (r_asg (look_t rfl)) rfl rfl rfl ?_
            refine Sq.nil ?_
            refine To.bnorm ?_
            refine To.next ?_
            refine Wp.reg ?_
            refine Sq.v (r_add (look_t rfl) (look_int 1)) rfl rfl rfl ?_
            refine Sq.v (r_move (look_t rfl)) rfl rfl rfl ?_
            refine Sq.nil ?_
            replace h := some_in h
            subst h
            exact To.roundG () 1 rfl (.same rfl (.same rfl (.same rfl (.same rfl (.same rfl (.same rfl (.same rfl (.same rfl (.same rfl (.same rfl (.same rfl (.same rfl (.same rfl (.same rfl (.same rfl (.same rfl (.same rfl (.same rfl (.same rfl .nil)))))))))))))))))))
          · replace h := cond_f hc h
            refine Wp.exit ?_
            refine To.exit ?_
            replace h := some_in h
            subst h
            exact To.leaveG () 0 rfl (by simp) rfl (.same rfl (.same rfl (.same rfl (.same rfl (.same rfl (.same rfl (.same rfl (.same rfl (.same rfl (.same rfl (.same rfl (.same rfl (.same rfl (.same rfl (.same rfl (.same rfl (.same rfl (.same rfl (.same rfl (.same rfl .nil))))))))))))))))))))
        · clear hl
          refine To.bexit ?_
          refine To.next ?_
          refine Wp.seq ?_
          refine Wp.reg ?_
          refine Sq.v (r_move (look_t rfl)) rfl rfl rfl ?_
          refine Sq.v (r_neq (look_t rfl) (look_int 0)) rfl rfl rfl ?_
          refine Sq.v (r_move (look_t rfl)) rfl rfl rfl ?_
          refine Sq.g (fun hb => r_move (look_t rfl)) rfl rfl rfl rfl rfl ?_
          refine Sq.g (fun hb => r_move (look_tc rfl hb)) rfl rfl rfl rfl rfl ?_
          refine Sq.gg (fun hb => r_move (look_t rfl)) rfl rfl rfl rfl rfl ?_
          refine Sq.gg (fun hb => r_not (look_tc rfl hb)) rfl rfl rfl rfl rfl ?_
          refine Sq.g (fun hb => r_and (look_tc rfl hb) (look_t rfl) (fun h => ⟨hb, h⟩)) rfl rfl rfl rfl rfl ?_
          refine Sq.v (r_or (look_t rfl) (look_t rfl) (fun h => h)) rfl rfl rfl ?_
          refine Sq.nil ?_
          refine To.next ?_
          refine Wp.cond (look_t rfl) (fun hc => ?_) (fun hc => ?_)
          · replace h := cond_t hc h
            refine Wp.seq ?_
            refine Wp.reg ?_
            refine Sq.v (r_asg (look_bool false)) rfl rfl rfl ?_
            refine Sq.nil ?_
            refine To.next ?_
            refine Wp.ret ?_
            refine To.bret ?_
            refine To.ret ?_
            replace h := some_in h
            subst h
            exact To.leaveG () 1 rfl (by simp) rfl (.same rfl (.same rfl (.same rfl (.same rfl (.same rfl (.same rfl (.same rfl (.same rfl (.same rfl (.same rfl (.same rfl (.same rfl (.same rfl (.same rfl (.same rfl (.same rfl (.same rfl (.same rfl (.same rfl (.same rfl .nil))))))))))))))))))))
          · replace h := cond_f hc h
            refine Wp.skip ?_
            refine To.bnorm ?_
            refine To.next ?_
            refine Wp.reg ?_
            refine Sq.v (r_add (look_t rfl) (look_int 1)) rfl rfl rfl ?_
            refine Sq.v (r_move (look_t rfl)) rfl rfl rfl ?_
            refine Sq.nil ?_
            replace h := some_in h
            subst h
            exact To.roundG () 1 rfl (.same rfl (.same rfl (.same rfl (.same rfl (.same rfl (.same rfl (.same rfl (.same rfl (.same rfl .nil)))))))))
    · replace h := cond_f hc h
      refine Wp.exit ?_
      refine To.exit ?_
      replace h := some_in h
      subst h
      exact To.leaveG () 0 rfl (by simp) rfl (.same rfl (.same rfl (.same rfl (.same rfl (.same rfl (.same rfl (.same rfl (.same rfl (.same rfl (.same rfl .nil))))))))))
  · clear hl
    rcases e1 with e1 | e1
    · simp only [Sum.elim_inl] at h
      refine To.bexit ?_
      refine To.next ?_
      refine Wp.seq ?_
      refine Wp.reg ?_
      obtain ⟨y6, hy6, h⟩ := bind_some h
      refine Sq.v (r_call en36 (C_law26_begun hy6) trivial) rfl rfl rfl ?_
      refine Sq.v (r_asg (look_t rfl)) rfl rfl rfl ?_
      refine Sq.nil ?_
      refine To.next ?_
      refine Wp.ret ?_
      replace h := some_in h
      subst h
      exact To.end1 rfl (rv_t rfl)
    · simp only [Sum.elim_inr] at h
      refine To.bret ?_
      refine To.ret ?_
      replace h := some_in h
      subst h
      exact To.end1 rfl (rv_t rfl)
set_option maxHeartbeats 2000000 in
theorem C_law26_CoverReduce {x0 : List (BitVec 16)} {x1 : List (BitVec 16)}  {r : Bool} (h : L_law26_CoverReduce x0 x1 = some r) : Meets Try.prog 10 [VP.of (x0), VP.of (x1)] (VP.of (r)) := by
  unfold L_law26_CoverReduce at h
  refine Meets.of Try.func10 rfl Try.ntmps10 rfl fun W A => ?_
  refine Wp.seq ?_
  refine Wp.reg ?_
  refine Sq.v (r_asg (look_bool false)) rfl rfl rfl ?_
  refine Sq.nil ?_
  refine To.next ?_
  refine Wp.seq ?_
  refine Wp.reg ?_
  refine Sq.v (r_move (look_t rfl)) rfl rfl rfl ?_
  obtain ⟨y1, hy1, h⟩ := bind_some h
  refine Sq.v (r_call en32 (C_law26_made hy1) ⟨look_t rfl, look_int 16, trivial⟩) rfl rfl rfl ?_
  refine Sq.v (r_asg (look_t rfl)) rfl rfl rfl ?_
  refine Sq.nil ?_
  refine To.next ?_
  refine Wp.seq ?_
  refine Wp.reg ?_
  refine Sq.v (r_move (look_t rfl)) rfl rfl rfl ?_
  obtain ⟨y2, hy2, h⟩ := bind_some h
  refine Sq.v (r_call en37 (C_cover_Reduce hy2) ⟨look_t rfl, trivial⟩) rfl rfl rfl ?_
  refine Sq.v (r_asg (look_t rfl)) rfl rfl rfl ?_
  refine Sq.nil ?_
  refine To.next ?_
  refine Wp.seq ?_
  refine Wp.reg ?_
  refine Sq.v (r_move (look_t rfl)) rfl rfl rfl ?_
  obtain ⟨y3, hy3, h⟩ := bind_some h
  refine Sq.v (r_call en35 (C_law26_bits hy3) ⟨look_t rfl, trivial⟩) rfl rfl rfl ?_
  obtain ⟨y4, hy4, h⟩ := bind_some h
  refine Sq.v (r_call en38 (C_ref26_Reduce hy4) ⟨look_t rfl, trivial⟩) rfl rfl rfl ?_
  refine Sq.v (r_asg (look_t rfl)) rfl rfl rfl ?_
  refine Sq.nil ?_
  refine To.next ?_
  refine Wp.seq ?_
  refine Wp.seq ?_
  refine Wp.reg ?_
  refine Sq.v (r_move (look_t rfl)) rfl rfl rfl ?_
  refine Sq.v (r_len Try.underlying31 (look_t rfl)) rfl rfl rfl ?_
  refine Sq.v (r_move (look_t rfl)) rfl rfl rfl ?_
  refine Sq.v (r_len Try.underlying33 (look_t rfl)) rfl rfl rfl ?_
  refine Sq.v (r_neq (look_t rfl) (look_t rfl)) rfl rfl rfl ?_
  refine Sq.nil ?_
  refine To.next ?_
  refine Wp.cond (look_t rfl) (fun hc => ?_) (fun hc => ?_)
  · replace h := cond_t hc h
    refine Wp.seq ?_
    refine Wp.reg ?_
    refine Sq.v (r_asg (look_bool false)) rfl rfl rfl ?_
    refine Sq.nil ?_
    refine To.next ?_
    refine Wp.ret ?_
    refine To.ret ?_
    replace h := some_in h
    subst h
    exact To.end1 rfl (rv_t rfl)
  · replace h := cond_f hc h
    refine Wp.skip ?_
    refine To.next ?_
    refine Wp.seq ?_
    refine Wp.seq ?_
    refine Wp.reg ?_
    refine Sq.v (r_move (look_t rfl)) rfl rfl rfl ?_
    obtain ⟨y5, hy5, h⟩ := bind_some h
    refine Sq.v (r_call en35 (C_law26_bits hy5) ⟨look_t rfl, trivial⟩) rfl rfl rfl ?_
    refine Sq.v (r_len Try.underlying33 (look_t rfl)) rfl rfl rfl ?_
    refine Sq.v (r_move (look_int 0)) rfl rfl rfl ?_
    refine Sq.nil ?_
    refine To.next ?_
    refine Wp.block ?_
    obtain ⟨e1, hl, h⟩ := bind_some h
    refine Wp.loopG (σ := Int) (ε := (Int × Bool) ⊕ (Int × Int × Bool × Bool)) (γ := Unit) (δ := Unit) hl (fun s1 g1 => [(0, VP.of (x0)), (1, VP.of (x1)), (4, VP.of (false)), (5, VP.of (y1)), (6, VP.of (y2)), (7, VP.of (y4)), (31, VP.of ((y2.length : Int) != (y4.length : Int))), (33, VP.of (y5)), (34, VP.of (y5.length : Int)), (35, VP.of (s1))]) (fun s1 g1 => []) (fun q1 => Sum.elim (fun q1 => Exit.exit 0) (fun q1 => Exit.ret) q1) (fun q1 g1 => Sum.elim (fun q1 => [(0, VP.of (x0)), (1, VP.of (x1)), (4, VP.of (false)), (5, VP.of (y1)), (6, VP.of (y2)), (7, VP.of (y4)), (31, VP.of ((y2.length : Int) != (y4.length : Int))), (33, VP.of (y5)), (34, VP.of (y5.length : Int)), (35, VP.of (q1.1)), (36, VP.of (q1.2))]) (fun q1 => [(0, VP.of (x0)), (1, VP.of (x1)), (4, VP.of (false)), (5, VP.of (y1)), (6, VP.of (y2)), (7, VP.of (y4)), (8, VP.of (q1.1)), (31, VP.of ((y2.length : Int) != (y4.length : Int))), (33, VP.of (y5)), (34, VP.of (y5.length : Int)), (35, VP.of (q1.2.1)), (36, VP.of (q1.2.2.1)), (45, VP.of (q1.2.2.2))]) q1) (fun q1 g1 => Sum.elim (fun q1 => []) (fun q1 => []) q1) () rfl (.same rfl (.same rfl (.same rfl (.same rfl (.same rfl (.same rfl (.same rfl (.same rfl (.same rfl (.same rfl .nil)))))))))) (fun s1 r h g1 => ?_) (fun g1 => ?_)
    · clear hl
      refine Wp.seq ?_
      refine Wp.reg ?_
      refine Sq.v (r_lss (look_t rfl) (look_t rfl)) rfl rfl rfl ?_
      refine Sq.nil ?_
      refine To.next ?_
      refine Wp.seq ?_
      refine Wp.cond (look_t rfl) (fun hc => ?_) (fun hc => ?_)
      · replace h := cond_t hc h
        refine Wp.skip ?_
        refine To.next ?_
        refine Wp.seq ?_
        refine Wp.block ?_
        refine Wp.seq ?_
        refine Wp.reg ?_
        refine Sq.v (r_move (look_t rfl)) rfl rfl rfl ?_
        obtain ⟨k1, hk1, h⟩ := bind_some h
        refine Sq.v (r_ias (k := k1) Try.underlying33 ty36 (look_t rfl) (look_t rfl) (idx_some hk1)) rfl rfl rfl ?_
        refine Sq.v (r_loadp ty36 (look_t rfl)) rfl rfl rfl ?_
        refine Sq.alloc zr36 rfl fun p1 => ?_
        refine Sq.v (r_asg (look_t rfl)) rfl rfl rfl ?_
        refine Sq.store (i := 0) (Lens.id (Vector (BitVec 8) 512)) (v := (lget y5 k1 : Vector (BitVec 8) 512)) (b' := (lget y5 k1 : Vector (BitVec 8) 512)) ty36 (look_t rfl) (look_t rfl) rfl rfl rfl ?_
        refine Sq.nil ?_
        refine To.next ?_
        refine Wp.seq ?_
        obtain ⟨k2, hk2, h⟩ := bind_some h
        refine Wp.draw mixed 6 [some 40, some 41, some 42, some 43, some 44, some 45] [[], [], [], [1, 2], [3], [0, 4]] [.val (VP.of (lget y5 k1)), .val (VP.of (y4)), .val (VP.of (s1)), .val (VP.ptr (lget y4 k2)), .val (VP.of (lget y4 k2)), .val (VP.of (!decide ((lget y5 k1) = lget y4 k2)))] [false, false, false, false, false, false] (by kernel_rfl) rfl rfl rfl (fun ps1 => ⟨fun L' hL => HO.v (r_load (i := 0) (Lens.id (Vector (BitVec 8) 512)) (r := (lget y5 k1)) ty36 (look_t rfl) (hL _ _ rfl rfl) rfl rfl) rfl, fun L' hL => HO.v (r_move (look_t rfl)) rfl, fun L' hL => HO.v (r_move (look_t rfl)) rfl, fun L' hL => HO.v (r_ias (k := k2) Try.underlying33 ty36 (look_t rfl) (look_t rfl) (idx_some hk2)) rfl, fun L' hL => HO.v (r_loadp ty36 (look_t rfl)) rfl, fun L' hL => HO.v (r_neA eqv36 rfl eqg36 rfl (look_t rfl) (look_t rfl)) rfl, trivial⟩) fun ps1 => ?_
        refine Sq.nil ?_
        refine To.next ?_
        refine Wp.cond (look_t rfl) (fun hc => ?_) (fun hc => ?_)
        · replace h := cond_t hc h
          refine Wp.seq ?_
          refine Wp.reg ?_
          refine Sq.v (r_asg (look_bool false)) rfl rfl rfl ?_
          refine Sq.nil ?_
          refine To.next ?_
          refine Wp.ret ?_
          refine To.bret ?_
          refine To.ret ?_
          replace h := some_in h
          subst h
          exact To.leaveG () 1 rfl (by simp) rfl (.same rfl (.same rfl (.same rfl (.same rfl (.same rfl (.same rfl (.same rfl (.same rfl (.same rfl (.same rfl (.same rfl (.same rfl (.same rfl .nil)))))))))))))
        · replace h := cond_f hc h
          refine Wp.skip ?_
          refine To.bnorm ?_
          refine To.next ?_
          refine Wp.reg ?_
          refine Sq.v (r_add (look_t rfl) (look_int 1)) rfl rfl rfl ?_
          refine Sq.v (r_move (look_t rfl)) rfl rfl rfl ?_
          refine Sq.nil ?_
          replace h := some_in h
          subst h
          exact To.roundG () 1 rfl (.same rfl (.same rfl (.same rfl (.same rfl (.same rfl (.same rfl (.same rfl (.same rfl (.same rfl (.same rfl .nil))))))))))
      · replace h := cond_f hc h
        refine Wp.exit ?_
        refine To.exit ?_
        replace h := some_in h
        subst h
        exact To.leaveG () 0 rfl (by simp) rfl (.same rfl (.same rfl (.same rfl (.same rfl (.same rfl (.same rfl (.same rfl (.same rfl (.same rfl (.same rfl (.same rfl .nil)))))))))))
    · clear hl
      rcases e1 with e1 | e1
      · simp only [Sum.elim_inl] at h
        refine To.bexit ?_
        refine To.next ?_
        refine Wp.seq ?_
        refine Wp.reg ?_
        refine Sq.own (α := T_cube_Cube) 28 ?_
        refine Sq.v (r_asg look_own) rfl rfl rfl ?_
        refine Sq.nil ?_
        refine To.next ?_
        refine Wp.seq ?_
        refine Wp.seq ?_
        refine Wp.reg ?_
        refine Sq.v (r_move (look_t rfl)) rfl rfl rfl ?_
        refine Sq.v (r_len Try.underlying31 (look_t rfl)) rfl rfl rfl ?_
        refine Sq.v (r_move (look_int 0)) rfl rfl rfl ?_
        refine Sq.nil ?_
        refine To.next ?_
        refine Wp.block ?_
        obtain ⟨e2, hl, h⟩ := bind_some h
        refine Wp.loopG (σ := Int × (List T_cube_Cube)) (ε := (Int × Bool × (List T_cube_Cube))) (γ := (Option Nat × Nat)) (δ := (Option Nat × Nat)) hl (fun s2 g2 => [(0, VP.of (x0)), (1, VP.of (x1)), (4, VP.of (false)), (5, VP.of (y1)), (6, VP.of (y2)), (7, VP.of (y4)), (10, VP.eq (slv g2.1 s2.2.length g2.2)), (31, VP.of ((y2.length : Int) != (y4.length : Int))), (33, VP.of (y5)), (34, VP.of (y5.length : Int)), (35, VP.of (e1.1)), (36, VP.of (e1.2)), (48, VP.of (y1.length : Int)), (49, VP.of (s2.1))]) (fun s2 g2 => [⟨g2.1, .row 28 (s2.2 : List T_cube_Cube) g2.2⟩]) (fun q2 => Exit.exit 2) (fun q2 g2 => [(0, VP.of (x0)), (1, VP.of (x1)), (4, VP.of (false)), (5, VP.of (y1)), (6, VP.of (y2)), (7, VP.of (y4)), (10, VP.eq (slv g2.1 q2.2.2.length g2.2)), (31, VP.of ((y2.length : Int) != (y4.length : Int))), (33, VP.of (y5)), (34, VP.of (y5.length : Int)), (35, VP.of (e1.1)), (36, VP.of (e1.2)), (48, VP.of (y1.length : Int)), (49, VP.of (q2.1)), (50, VP.of (q2.2.1))]) (fun q2 g2 => [⟨g2.1, .row 28 (q2.2.2 : List T_cube_Cube) g2.2⟩]) (none, 0) rfl (.same rfl (.same rfl (.same rfl (.same rfl (.same rfl (.same rfl (.same rfl (.same rfl (.same rfl (.same rfl (.same rfl (.same rfl (.same rfl (.same rfl .nil)))))))))))))) (fun s2 r h g2 => ?_) (fun g2 => ?_)
        · clear hl
          refine Wp.seq ?_
          refine Wp.reg ?_
          refine Sq.v (r_lss (look_t rfl) (look_t rfl)) rfl rfl rfl ?_
          refine Sq.nil ?_
          refine To.next ?_
          refine Wp.seq ?_
          refine Wp.cond (look_t rfl) (fun hc => ?_) (fun hc => ?_)
          · replace h := cond_t hc h
            refine Wp.skip ?_
            refine To.next ?_
            refine Wp.seq ?_
            refine Wp.block ?_
            refine Wp.seq ?_
            refine Wp.reg ?_
            refine Sq.v (r_move (look_t rfl)) rfl rfl rfl ?_
            refine Sq.v (r_asg (look_t rfl)) rfl rfl rfl ?_
            refine Sq.nil ?_
            refine To.next ?_
            refine Wp.reg ?_
            refine Sq.v (r_move (look_t rfl)) rfl rfl rfl ?_
            refine Sq.v (r_move (look_t rfl)) rfl rfl rfl ?_
            refine Sq.v (r_move (look_t rfl)) rfl rfl rfl ?_
            refine Sq.v (r_len Try.underlying31 (look_t rfl)) rfl rfl rfl ?_
            refine Sq.v (r_sub (look_t rfl) (look_int 1)) rfl rfl rfl ?_
            refine Sq.v (r_move (look_t rfl)) rfl rfl rfl ?_
            refine Sq.v (r_sub (look_t rfl) (look_t rfl)) rfl rfl rfl ?_
            obtain ⟨k3, hk3, h⟩ := bind_some h
            refine Sq.v (r_ias (k := k3) Try.underlying31 ty28 (look_t rfl) (look_t rfl) (idx_some hk3)) rfl rfl rfl ?_
            refine Sq.v (r_loadp ty28 (look_t rfl)) rfl rfl rfl ?_
            refine Sq.v (r_bsl (r := [lget y1 k3]) Try.underlying31 ty28 zr28 rfl rfl (.cons (by simp) (look_t rfl) (.nil))) rfl rfl rfl ?_
            obtain ⟨y6, hy6, h⟩ := bind_some h
            refine Sq.app (i := 0) Try.underlying31 ty28 zr28 (bytes := 128) (by kernel_rfl) (look_t rfl) rfl (look_t rfl) hy6 rfl fun key1 cap1 => ?_
            refine Sq.v (r_asg (look_t rfl)) rfl rfl rfl ?_
            refine Sq.nil ?_
            refine To.bnorm ?_
            refine To.next ?_
            refine Wp.reg ?_
            refine Sq.v (r_add (look_t rfl) (look_int 1)) rfl rfl rfl ?_
            refine Sq.v (r_move (look_t rfl)) rfl rfl rfl ?_
            refine Sq.nil ?_
            replace h := some_in h
            subst h
            exact To.roundG (key1, cap1) 0 rfl (.same rfl (.same rfl (.same rfl (.same rfl (.same rfl (.same rfl (.same rfl (.same rfl (.same rfl (.same rfl (.same rfl (.same rfl (.same rfl (.same rfl .nil))))))))))))))
          · replace h := cond_f hc h
            refine Wp.exit ?_
            refine To.exit ?_
            replace h := some_in h
            subst h
            exact To.leaveG (g2.1, g2.2) 0 rfl (by simp) rfl (.same rfl (.same rfl (.same rfl (.same rfl (.same rfl (.same rfl (.same rfl (.same rfl (.same rfl (.same rfl (.same rfl (.same rfl (.same rfl (.same rfl (.same rfl .nil)))))))))))))))
        · clear hl
          refine To.bexit ?_
          refine To.next ?_
          refine Wp.seq ?_
          refine Wp.seq ?_
          refine Wp.reg ?_
          refine Sq.v (r_move (look_t rfl)) rfl rfl rfl ?_
          obtain ⟨y7, hy7, h⟩ := bind_some h
          refine Sq.callO (Lin := []) (Lr := [⟨g2.1, .row 28 (e2.2.2 : List T_cube_Cube) g2.2⟩]) en32 (Co_law26_made hy7) ⟨look_t rfl, look_int 2, trivial⟩ rfl fun q3 => ?_
          refine Sq.v (r_build (b := (default : T_cube_Cube)) rfl bu28 zr28 (.nil)) rfl rfl rfl ?_
          refine Sq.v (r_bsl (r := [(default : T_cube_Cube)]) Try.underlying31 ty28 zr28 rfl rfl (.cons (by simp) (look_t rfl) (.nil))) rfl rfl rfl ?_
          obtain ⟨y8, hy8, h⟩ := bind_some h
          refine Sq.app (i := 0) Try.underlying31 ty28 zr28 (bytes := 128) (by kernel_rfl) (look_t rfl) rfl (look_t rfl) hy8 rfl fun key2 cap2 => ?_
          refine Sq.v (r_lenO (i := 0) Try.underlying31 (look_t rfl) rfl rfl) rfl rfl rfl ?_
          refine Sq.v (r_move (look_int 0)) rfl rfl rfl ?_
          refine Sq.nil ?_
          refine To.next ?_
          refine Wp.block ?_
          refine Wp.freeze (α := T_cube_Cube) 1 10 rfl rfl ?_
          obtain ⟨e3, hl, h⟩ := bind_some h
          refine Wp.loopG (σ := Int) (ε := (Int × Bool) ⊕ (Bool × Int × Bool × Int × Bool × Int × Int × Bool × Bool)) (γ := Unit) (δ := Unit) hl (fun s4 g4 => [(0, VP.of (x0)), (1, VP.of (x1)), (4, VP.of (false)), (5, VP.of (y1)), (6, VP.of (y2)), (7, VP.of (y4)), (10, VP.of (e2.2.2)), (31, VP.of ((y2.length : Int) != (y4.length : Int))), (33, VP.of (y5)), (34, VP.of (y5.length : Int)), (35, VP.of (e1.1)), (36, VP.of (e1.2)), (48, VP.of (y1.length : Int)), (49, VP.of (e2.1)), (50, VP.of (e2.2.1)), (68, VP.eq (slv key2 y8.length cap2)), (69, VP.of (y8.length : Int)), (70, VP.of (s4))]) (fun s4 g4 => [⟨key2, .row 28 (y8 : List T_cube_Cube) cap2⟩, ⟨none, .dead⟩]) (fun q5 => Sum.elim (fun q5 => Exit.exit 4) (fun q5 => Exit.ret) q5) (fun q5 g4 => Sum.elim (fun q5 => [(0, VP.of (x0)), (1, VP.of (x1)), (4, VP.of (false)), (5, VP.of (y1)), (6, VP.of (y2)), (7, VP.of (y4)), (10, VP.of (e2.2.2)), (31, VP.of ((y2.length : Int) != (y4.length : Int))), (33, VP.of (y5)), (34, VP.of (y5.length : Int)), (35, VP.of (e1.1)), (36, VP.of (e1.2)), (48, VP.of (y1.length : Int)), (49, VP.of (e2.1)), (50, VP.of (e2.2.1)), (68, VP.eq (slv key2 y8.length cap2)), (69, VP.of (y8.length : Int)), (70, VP.of (q5.1)), (71, VP.of (q5.2))]) (fun q5 => [(0, VP.of (x0)), (1, VP.of (x1)), (4, VP.of (false)), (5, VP.of (y1)), (6, VP.of (y2)), (7, VP.of (y4)), (10, VP.of (e2.2.2)), (14, VP.of (q5.1)), (15, VP.of (q5.2.1)), (16, VP.of (q5.2.2.1)), (17, VP.of (q5.2.2.2.1)), (18, VP.of (q5.2.2.2.2.1)), (19, VP.of (q5.2.2.2.2.2.1)), (31, VP.of ((y2.length : Int) != (y4.length : Int))), (33, VP.of (y5)), (34, VP.of (y5.length : Int)), (35, VP.of (e1.1)), (36, VP.of (e1.2)), (48, VP.of (y1.length : Int)), (49, VP.of (e2.1)), (50, VP.of (e2.2.1)), (68, VP.eq (slv key2 y8.length cap2)), (69, VP.of (y8.length : Int)), (70, VP.of (q5.2.2.2.2.2.2.1)), (71, VP.of (q5.2.2.2.2.2.2.2.1)), (111, VP.of (q5.2.2.2.2.2.2.2.2))]) q5) (fun q5 g4 => Sum.elim (fun q5 => [⟨key2, .row 28 (y8 : List T_cube_Cube) cap2⟩, ⟨none, .dead⟩]) (fun q5 => [⟨key2, .row 28 (y8 : List T_cube_Cube) cap2⟩, ⟨none, .dead⟩]) q5) () rfl (.same rfl (.same rfl (.same rfl (.same rfl (.same rfl (.same rfl (.same rfl (.same rfl (.same rfl (.same rfl (.same rfl (.same rfl (.same rfl (.same rfl (.same rfl (.same rfl (.same rfl (.same rfl .nil)))))))))))))))))) (fun s4 r h g4 => ?_) (fun g4 => ?_)
          · clear hl
            refine Wp.seq ?_
            refine Wp.reg ?_
            refine Sq.v (r_lss (look_t rfl) (look_t rfl)) rfl rfl rfl ?_
            refine Sq.nil ?_
            refine To.next ?_
            refine Wp.seq ?_
            refine Wp.cond (look_t rfl) (fun hc => ?_) (fun hc => ?_)
            · replace h := cond_t hc h
              refine Wp.skip ?_
              refine To.next ?_
              refine Wp.seq ?_
              refine Wp.block ?_
              refine Wp.seq ?_
              refine Wp.reg ?_
              obtain ⟨k4, hk4, h⟩ := bind_some h
              refine Sq.v (r_iaO (i := 0) (k := k4) (xs := (y8 : List T_cube_Cube)) Try.underlying31 ty28 (look_t rfl) (look_t rfl) rfl (idx_some hk4)) rfl rfl rfl ?_
              refine Sq.v (r_loadR (i := 0) (k := k4) (Lens.id T_cube_Cube) (r := (lget y8 k4)) ty28 (look_t rfl) rfl (idx_some hk4).1 rfl rfl) rfl rfl rfl ?_
              refine Sq.alloc zr28 rfl fun p2 => ?_
              refine Sq.store (i := 0) (Lens.id T_cube_Cube) (v := ((lget y8 k4) : T_cube_Cube)) (b' := ((lget y8 k4) : T_cube_Cube)) ty28 (look_t rfl) (look_t rfl) rfl rfl rfl ?_
              refine Sq.nil ?_
              refine To.next ?_
              refine Wp.seq ?_
              refine Wp.reg ?_
              refine Sq.v (r_load (i := 0) (Lens.id T_cube_Cube) (r := (lget y8 k4)) ty28 (look_t rfl) rfl rfl rfl) rfl rfl rfl ?_
              refine Sq.v (r_move (look_t rfl)) rfl rfl rfl ?_
              obtain ⟨y9, hy9, h⟩ := bind_some h
              refine Sq.v (r_call en33 (C_cover_Covered hy9) ⟨look_t rfl, look_t rfl, trivial⟩) rfl rfl rfl ?_
              refine Sq.v (r_move (look_t rfl)) rfl rfl rfl ?_
              refine Sq.v (r_ext (look_t rfl) rfl) rfl rfl rfl ?_
              refine Sq.v (r_ext (look_t rfl) rfl) rfl rfl rfl ?_
              refine Sq.v (r_asg (look_t rfl)) rfl rfl rfl ?_
              refine Sq.v (r_asg (look_t rfl)) rfl rfl rfl ?_
              refine Sq.nil ?_
              refine To.next ?_
              refine Wp.seq ?_
              refine Wp.reg ?_
              refine Sq.v (r_load (i := 0) (Lens.id T_cube_Cube) (r := (lget y8 k4)) ty28 (look_t rfl) rfl rfl rfl) rfl rfl rfl ?_
              refine Sq.v (r_move (look_t rfl)) rfl rfl rfl ?_
              obtain ⟨y10, hy10, h⟩ := bind_some h
              refine Sq.v (r_call en33 (C_cover_Covered hy10) ⟨look_t rfl, look_t rfl, trivial⟩) rfl rfl rfl ?_
              refine Sq.v (r_move (look_t rfl)) rfl rfl rfl ?_
              refine Sq.v (r_ext (look_t rfl) rfl) rfl rfl rfl ?_
              refine Sq.v (r_ext (look_t rfl) rfl) rfl rfl rfl ?_
              refine Sq.v (r_asg (look_t rfl)) rfl rfl rfl ?_
              refine Sq.v (r_asg (look_t rfl)) rfl rfl rfl ?_
              refine Sq.nil ?_
              refine To.next ?_
              refine Wp.seq ?_
              refine Wp.reg ?_
              refine Sq.v (r_load (i := 0) (Lens.id T_cube_Cube) (r := (lget y8 k4)) ty28 (look_t rfl) rfl rfl rfl) rfl rfl rfl ?_
              refine Sq.v (r_move (look_t rfl)) rfl rfl rfl ?_
              obtain ⟨y11, hy11, h⟩ := bind_some h
              refine Sq.v (r_call en33 (C_cover_Covered hy11) ⟨look_t rfl, look_t rfl, trivial⟩) rfl rfl rfl ?_
              refine Sq.v (r_move (look_t rfl)) rfl rfl rfl ?_
              refine Sq.v (r_ext (look_t rfl) rfl) rfl rfl rfl ?_
              refine Sq.v (r_ext (look_t rfl) rfl) rfl rfl rfl ?_
              refine Sq.v (r_asg (look_t rfl)) rfl rfl rfl ?_
              refine Sq.v (r_asg (look_t rfl)) rfl rfl rfl ?_
              refine Sq.nil ?_
              refine To.next ?_
              refine Wp.seq ?_
              refine Wp.reg ?_
              refine Sq.v (r_move (look_t rfl)) rfl rfl rfl ?_
              refine Sq.v (r_neq (look_t rfl) (look_int 0)) rfl rfl rfl ?_
              refine Sq.v (r_move (look_t rfl)) rfl rfl rfl ?_
              refine Sq.g (fun hb => r_move (look_t rfl)) rfl rfl rfl rfl rfl ?_
              refine Sq.g (fun hb => r_neq (look_tc rfl hb) (look_int 0)) rfl rfl rfl rfl rfl ?_
              refine Sq.v (r_or (look_t rfl) (look_t rfl) (fun h => h)) rfl rfl rfl ?_
              refine Sq.v (r_move (look_t rfl)) rfl rfl rfl ?_
              refine Sq.g (fun hb => r_move (look_t rfl)) rfl rfl rfl rfl rfl ?_
              refine Sq.g (fun hb => r_neq (look_tc rfl hb) (look_int 0)) rfl rfl rfl rfl rfl ?_
              refine Sq.v (r_or (look_t rfl) (look_t rfl) (fun h => h)) rfl rfl rfl ?_
              refine Sq.v (r_move (look_t rfl)) rfl rfl rfl ?_
              refine Sq.g (fun hb => r_move (look_t rfl)) rfl rfl rfl rfl rfl ?_
              refine Sq.g (fun hb => r_move (look_t rfl)) rfl rfl rfl rfl rfl ?_
              refine Sq.g (fun hb => r_bne Try.underlying4 (look_tc rfl hb) (look_tc rfl hb)) rfl rfl rfl rfl rfl ?_
              refine Sq.v (r_or (look_t rfl) (look_t rfl) (fun h => h)) rfl rfl rfl ?_
              refine Sq.v (r_move (look_t rfl)) rfl rfl rfl ?_
              refine Sq.g (fun hb => r_move (look_t rfl)) rfl rfl rfl rfl rfl ?_
              refine Sq.g (fun hb => r_move (look_t rfl)) rfl rfl rfl rfl rfl ?_
              refine Sq.g (fun hb => r_bne Try.underlying4 (look_tc rfl hb) (look_tc rfl hb)) rfl rfl rfl rfl rfl ?_
              obtain ⟨z1, hz1, h⟩ := bind_some h
              refine Sq.v ((r_or (look_t rfl) (look_t rfl) (fun h => h)).as (some_in hz1)) rfl rfl rfl ?_
              refine Sq.nil ?_
              refine To.next ?_
              refine Wp.cond (look_t rfl) (fun hc => ?_) (fun hc => ?_)
              · replace h := cond_t hc h
                refine Wp.seq ?_
                refine Wp.reg ?_
                refine Sq.v (r_asg (look_bool false)) rfl rfl rfl ?_
                refine Sq.nil ?_
                refine To.next ?_
                refine Wp.ret ?_
                refine To.bret ?_
                refine To.ret ?_
                replace h := some_in h
                subst h
                exact To.leaveG () 1 rfl (by simp) rfl (.same rfl (.same rfl (.same rfl (.same rfl (.same rfl (.same rfl (.same rfl (.same rfl (.same rfl (.same rfl (.same rfl (.same rfl (.same rfl (.same rfl (.same rfl (.same rfl (.same rfl (.same rfl (.same rfl (.same rfl (.same rfl (.same rfl (.same rfl (.same rfl (.same rfl (.same rfl .nil))))))))))))))))))))))))))
              · replace h := cond_f hc h
                refine Wp.skip ?_
                refine To.bnorm ?_
                refine To.next ?_
                refine Wp.reg ?_
                refine Sq.v (r_add (look_t rfl) (look_int 1)) rfl rfl rfl ?_
                refine Sq.v (r_move (look_t rfl)) rfl rfl rfl ?_
                refine Sq.nil ?_
                replace h := some_in h
                subst h
                exact To.roundG () 1 rfl (.same rfl (.same rfl (.same rfl (.same rfl (.same rfl (.same rfl (.same rfl (.same rfl (.same rfl (.same rfl (.same rfl (.same rfl (.same rfl (.same rfl (.same rfl (.same rfl (.same rfl (.same rfl .nil))))))))))))))))))
            · replace h := cond_f hc h
              refine Wp.exit ?_
              refine To.exit ?_
              replace h := some_in h
              subst h
              exact To.leaveG () 0 rfl (by simp) rfl (.same rfl (.same rfl (.same rfl (.same rfl (.same rfl (.same rfl (.same rfl (.same rfl (.same rfl (.same rfl (.same rfl (.same rfl (.same rfl (.same rfl (.same rfl (.same rfl (.same rfl (.same rfl (.same rfl .nil)))))))))))))))))))
          · clear hl
            rcases e3 with e3 | e3
            · simp only [Sum.elim_inl] at h
              refine To.bexit ?_
              refine To.next ?_
              refine Wp.seq ?_
              refine Wp.reg ?_
              obtain ⟨y12, hy12, h⟩ := bind_some h
              refine Sq.v (r_call en36 (C_law26_begun hy12) trivial) rfl rfl rfl ?_
              refine Sq.v (r_asg (look_t rfl)) rfl rfl rfl ?_
              refine Sq.nil ?_
              refine To.next ?_
              refine Wp.ret ?_
              replace h := some_in h
              subst h
              exact To.end1 rfl (rv_t rfl)
            · simp only [Sum.elim_inr] at h
              refine To.bret ?_
              refine To.ret ?_
              replace h := some_in h
              subst h
              exact To.end1 rfl (rv_t rfl)
      · simp only [Sum.elim_inr] at h
        refine To.bret ?_
        refine To.ret ?_
        replace h := some_in h
        subst h
        exact To.end1 rfl (rv_t rfl)
end Go.Proofs.Ytabodolbdalimaa
