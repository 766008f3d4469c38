/-
  Printed by the decompiler (dec.py) out of the seat's translation. Each function meets its functional program. Conditions: none.
-/
import Derived.Test.YtabodolbdalimaaDc0
import Derived.Test.YtabodolbdalimaaDc4
import Derived.Test.YtabodolbdalimaaDc6
import Derived.Test.YtabodolbdalimaaDc7
import Derived.Test.YtabodolbdalimaaDc8
import Derived.Test.YtabodolbdalimaaDc13
import Derived.Test.YtabodolbdalimaaDc14
import Derived.Test.YtabodolbdalimaaDc15
import Derived.Test.YtabodolbdalimaaDc16
import Derived.Test.YtabodolbdalimaaDc17
import Derived.Test.YtabodolbdalimaaDc18
namespace Go.Proofs.Ytabodolbdalimaa
open Go Gv
set_option linter.unusedVariables false
set_option linter.unusedSimpArgs false
set_option maxRecDepth 100000
set_option maxHeartbeats 2000000 in
theorem C_law25_CubeEntries {x0 : List (BitVec 8)} {x1 : List (BitVec 8)} {x2 : Int}  {r : Bool} (h : L_law25_CubeEntries x0 x1 x2 = some r) : Meets Try.prog 12 [VP.of (x0), VP.of (x1), VP.of (x2)] (VP.of (r)) := by
  unfold L_law25_CubeEntries at h
  refine Meets.of Try.func12 rfl Try.ntmps12 rfl fun W A => ?_
  refine Wp.seq ?_
  refine Wp.reg ?_
  refine Sq.v (r_asg (look_bool false)) rfl rfl rfl ?_
  refine Sq.nil ?_
  refine To.next ?_
  refine Wp.seq ?_
  refine Wp.reg ?_
  refine Sq.v (r_move (look_t rfl)) rfl rfl rfl ?_
  obtain ⟨y1, hy1, h⟩ := bind_some h
  refine Sq.callO (Lin := []) (Lr := []) en41 (C_mcase_New hy1) ⟨look_t rfl, look_int 120, trivial⟩ rfl fun q1 => ?_
  refine Sq.bring 0 rfl ?_
  obtain ⟨y2, hy2, h⟩ := bind_some h
  refine Sq.callO (Lin := [⟨some q1, .var (y1 : T_mcase_Codes)⟩]) (Lr := []) en42 (C_mcase_Codes_Schema hy2) ⟨look_t rfl, trivial⟩ rfl fun q2 => ?_
  refine Sq.v (r_move (look_t rfl)) rfl rfl rfl ?_
  obtain ⟨y3, hy3, h⟩ := bind_some h
  refine Sq.callO (Lin := []) (Lr := [⟨some q1, .var (y2.2 : T_mcase_Codes)⟩]) en41 (C_mcase_New hy3) ⟨look_t rfl, look_int 60, trivial⟩ rfl fun q3 => ?_
  refine Sq.alloc zr84 rfl fun p1 => ?_
  refine Sq.store (i := 0) (Lens.id T_api_Schema) (v := (y2.1 : T_api_Schema)) (b' := (y2.1 : T_api_Schema)) ty84 (look_t rfl) (look_t rfl) rfl rfl rfl ?_
  refine Sq.v (r_asg (look_t rfl)) rfl rfl rfl ?_
  refine Sq.nil ?_
  refine To.next ?_
  refine Wp.seq ?_
  refine Wp.seq ?_
  refine Wp.reg ?_
  refine Sq.v (r_asg (look_int 0)) rfl rfl rfl ?_
  refine Sq.nil ?_
  refine To.next ?_
  refine Wp.block ?_
  obtain ⟨e1, hl, h⟩ := bind_some h
  refine Wp.loopG (σ := Int × T_mcase_Codes) (ε := (Int × Bool × T_mcase_Codes) ⊕ (Int × Bool × Bool × Bool × Bool × T_mcase_Codes)) (γ := Unit) (δ := Unit) hl (fun s1 g1 => [(0, VP.of (x0)), (1, VP.of (x1)), (2, VP.of (x2)), (6, VP.of (false)), (7, VP.eq (.pointer (some ⟨p1, 0, none⟩))), (8, VP.eq (.pointer (some ⟨q3, 0, none⟩))), (9, VP.of (s1.1))]) (fun s1 g1 => [⟨some p1, .var (y2.1 : T_api_Schema)⟩, ⟨some q3, .var (s1.2 : T_mcase_Codes)⟩, ⟨some q1, .var (y2.2 : T_mcase_Codes)⟩]) (fun q4 => Sum.elim (fun q4 => Exit.exit 0) (fun q4 => Exit.ret) q4) (fun q4 g1 => Sum.elim (fun q4 => [(0, VP.of (x0)), (1, VP.of (x1)), (2, VP.of (x2)), (6, VP.of (false)), (7, VP.eq (.pointer (some ⟨p1, 0, none⟩))), (8, VP.eq (.pointer (some ⟨q3, 0, none⟩))), (9, VP.of (q4.1)), (25, VP.of (q4.2.1))]) (fun q4 => [(0, VP.of (x0)), (1, VP.of (x1)), (2, VP.of (x2)), (6, VP.of (false)), (7, VP.eq (.pointer (some ⟨p1, 0, none⟩))), (8, VP.eq (.pointer (some ⟨q3, 0, none⟩))), (9, VP.of (q4.1)), (12, VP.of (q4.2.1)), (14, VP.of (q4.2.2.1)), (25, VP.of (q4.2.2.2.1)), (66, VP.of (q4.2.2.2.2.1))]) q4) (fun q4 g1 => Sum.elim (fun q4 => [⟨some p1, .var (y2.1 : T_api_Schema)⟩, ⟨some q3, .var (q4.2.2 : T_mcase_Codes)⟩, ⟨some q1, .var (y2.2 : T_mcase_Codes)⟩]) (fun q4 => [⟨some p1, .var (y2.1 : T_api_Schema)⟩, ⟨some q3, .var (q4.2.2.2.2.2 : T_mcase_Codes)⟩, ⟨some q1, .var (y2.2 : T_mcase_Codes)⟩]) q4) () rfl (.same rfl (.same rfl (.same rfl (.same rfl (.same rfl (.same rfl (.same rfl .nil))))))) (fun s1 r h g1 => ?_) (fun g1 => ?_)
  · clear hl
    refine Wp.seq ?_
    refine Wp.seq ?_
    refine Wp.reg ?_
    refine Sq.v (r_move (look_t rfl)) rfl rfl rfl ?_
    refine Sq.v (r_lss (look_t rfl) (look_int 5)) rfl rfl rfl ?_
    refine Sq.nil ?_
    refine To.next ?_
    refine Wp.cond (look_t rfl) (fun hc => ?_) (fun hc => ?_)
    · replace h := cond_t hc h
      refine Wp.skip ?_
      refine To.next ?_
      refine Wp.seq ?_
      refine Wp.block ?_
      refine Wp.seq ?_
      refine Wp.reg ?_
      refine Sq.v (r_move (look_t rfl)) rfl rfl rfl ?_
      refine Sq.v (r_load (i := 0) (Lens.id T_api_Schema) (r := y2.1) ty84 (look_t rfl) rfl rfl rfl) rfl rfl rfl ?_
      refine Sq.v (r_move (look_t rfl)) rfl rfl rfl ?_
      refine Sq.v (r_move (look_t rfl)) rfl rfl rfl ?_
      refine Sq.v (r_add (look_t rfl) (look_t rfl)) rfl rfl rfl ?_
      refine Sq.bring 1 rfl ?_
      obtain ⟨y4, hy4, h⟩ := bind_some h
      refine Sq.callO (Lin := [⟨some q3, .var (s1.2 : T_mcase_Codes)⟩]) (Lr := [⟨some p1, .var (y2.1 : T_api_Schema)⟩, ⟨some q1, .var (y2.2 : T_mcase_Codes)⟩]) en43 (C_mcase_Codes_Entry hy4) ⟨look_t rfl, look_t rfl, look_t rfl, trivial⟩ rfl fun q5 => ?_
      refine Sq.alloc zr91 rfl fun p2 => ?_
      refine Sq.store (i := 0) (Lens.id T_api_Entry) (v := (y4.1 : T_api_Entry)) (b' := (y4.1 : T_api_Entry)) ty91 (look_t rfl) (look_t rfl) rfl rfl rfl ?_
      refine Sq.nil ?_
      refine To.next ?_
      refine Wp.seq ?_
      refine Wp.reg ?_
      refine Sq.v (r_load (i := 2) (Lens.id T_api_Schema) (r := y2.1) ty84 (look_t rfl) rfl rfl rfl) rfl rfl rfl ?_
      refine Sq.v (r_load (i := 0) (Lens.id T_api_Entry) (r := y4.1) ty91 (look_t rfl) rfl rfl rfl) rfl rfl rfl ?_
      obtain ⟨y5, hy5, h⟩ := bind_some h
      refine Sq.v (r_call en44 (C_cube_Of hy5) ⟨look_t rfl, look_t rfl, trivial⟩) rfl rfl rfl ?_
      refine Sq.v (r_move (look_t rfl)) rfl rfl rfl ?_
      refine Sq.v (r_ext (look_t rfl) rfl) rfl rfl rfl ?_
      refine Sq.v (r_ext (look_t rfl) rfl) rfl rfl rfl ?_
      refine Sq.alloc zr28 rfl fun p3 => ?_
      refine Sq.store (i := 0) (Lens.id T_cube_Cube) (v := (y5.1 : T_cube_Cube)) (b' := (y5.1 : T_cube_Cube)) ty28 (look_t rfl) (look_t rfl) rfl rfl rfl ?_
      refine Sq.v (r_asg (look_t rfl)) rfl rfl rfl ?_
      refine Sq.nil ?_
      refine To.next ?_
      refine Wp.seq ?_
      refine Wp.reg ?_
      refine Sq.v (r_load (i := 3) (Lens.id T_api_Schema) (r := y2.1) ty84 (look_t rfl) rfl rfl rfl) rfl rfl rfl ?_
      refine Sq.v (r_load (i := 1) (Lens.id T_api_Entry) (r := y4.1) ty91 (look_t rfl) rfl rfl rfl) rfl rfl rfl ?_
      obtain ⟨y6, hy6, h⟩ := bind_some h
      refine Sq.v (r_call en45 (C_ref25_Of hy6) ⟨look_t rfl, look_t rfl, trivial⟩) rfl rfl rfl ?_
      refine Sq.v (r_move (look_t rfl)) rfl rfl rfl ?_
      refine Sq.v (r_ext (look_t rfl) rfl) rfl rfl rfl ?_
      refine Sq.v (r_ext (look_t rfl) rfl) rfl rfl rfl ?_
      refine Sq.alloc zr36 rfl fun p4 => ?_
      refine Sq.store (i := 0) (Lens.id (Vector (BitVec 8) 512)) (v := (y6.1 : Vector (BitVec 8) 512)) (b' := (y6.1 : Vector (BitVec 8) 512)) ty36 (look_t rfl) (look_t rfl) rfl rfl rfl ?_
      refine Sq.v (r_asg (look_t rfl)) rfl rfl rfl ?_
      refine Sq.nil ?_
      refine To.next ?_
      refine Wp.seq ?_
      refine Wp.seq ?_
      obtain ⟨y7, hy7, h⟩ := bind_some h
      obtain ⟨z1, hz1, h⟩ := bind_some h
      refine Wp.draw mixed 21 ((some 46) :: (some 47) :: (some 48) :: (some 49) :: (some 50) :: (some 51) :: (some 52) :: (some 53) :: (some 54) :: (some 55) :: (some 56) :: (some 57) :: (some 58) :: (some 59) :: (some 60) :: (some 61) :: (some 62) :: (some 63) :: (some 64) :: (some 65) :: (some 66) :: []) ([] :: [] :: [0, 1] :: [2] :: [3] :: [3, 4] :: [5] :: [5, 6] :: [5] :: [5, 7, 8] :: [3, 5, 9] :: [3, 10] :: [11] :: [12] :: [12, 13] :: [12, 14] :: [15] :: [15] :: [15, 16, 17] :: [12, 15, 18] :: [12, 19] :: []) (.val (VP.of (y5.2)) :: .val (VP.of (y6.2)) :: .val (VP.of (y5.2 != y6.2)) :: .val (VP.of (y5.2 != y6.2)) :: .val (VP.cond ((y5.2 != y6.2) = false) (VP.of (y5.2))) :: .val (VP.cond ((y5.2 != y6.2) = false) (VP.of (y5.2))) :: .val (VP.cond (((y5.2 != y6.2) = false) ∧ y5.2 = true) (VP.of (y5.1))) :: .val (VP.cond (((y5.2 != y6.2) = false) ∧ y5.2 = true) (VP.of (y7))) :: .val (VP.cond (((y5.2 != y6.2) = false) ∧ y5.2 = true) (VP.of (y6.1))) :: .val (VP.cond (((y5.2 != y6.2) = false) ∧ y5.2 = true) (VP.of (!decide (y7 = y6.1)))) :: .val (VP.cond ((y5.2 != y6.2) = false) (VP.of (y5.2 && (!decide (y7 = y6.1))))) :: .val (VP.of ((y5.2 != y6.2) || (y5.2 && (!decide (y7 = y6.1))))) :: .val (VP.of ((y5.2 != y6.2) || (y5.2 && (!decide (y7 = y6.1))))) :: .val (VP.cond (((y5.2 != y6.2) || (y5.2 && (!decide (y7 = y6.1)))) = false) (VP.of (y5.2))) :: .val (VP.cond (((y5.2 != y6.2) || (y5.2 && (!decide (y7 = y6.1)))) = false) (VP.of (!y5.2))) :: .val (VP.cond (((y5.2 != y6.2) || (y5.2 && (!decide (y7 = y6.1)))) = false) (VP.of (!y5.2))) :: .val (VP.cond ((((y5.2 != y6.2) || (y5.2 && (!decide (y7 = y6.1)))) = false) ∧ (!y5.2) = true) (VP.of (y5.1))) :: .val (VP.cond ((((y5.2 != y6.2) || (y5.2 && (!decide (y7 = y6.1)))) = false) ∧ (!y5.2) = true) (VP.of (default : T_cube_Cube))) :: .val (VP.cond ((((y5.2 != y6.2) || (y5.2 && (!decide (y7 = y6.1)))) = false) ∧ (!y5.2) = true) (VP.of (!decide (y5.1 = (default : T_cube_Cube))))) :: .val (VP.cond (((y5.2 != y6.2) || (y5.2 && (!decide (y7 = y6.1)))) = false) (VP.of ((!y5.2) && (!decide (y5.1 = (default : T_cube_Cube)))))) :: .val (VP.of (z1)) :: []) (false :: false :: false :: false :: false :: false :: false :: false :: false :: false :: false :: false :: false :: false :: false :: false :: false :: false :: false :: false :: false :: []) (by kernel_rfl) rfl rfl rfl (fun ps1 => ⟨fun L' hL => HO.v (r_move (look_t rfl)) rfl, fun L' hL => HO.v (r_move (look_t rfl)) rfl, fun L' hL => HO.v (r_bne Try.underlying4 (look_t rfl) (look_t rfl)) rfl, fun L' hL => HO.v (r_move (look_t rfl)) rfl, fun L' hL => HO.g (fun hb => r_move (look_t rfl)) rfl rfl rfl, fun L' hL => HO.g (fun hb => r_move (look_tc rfl hb)) rfl rfl rfl, fun L' hL => HO.gg (fun hb => r_load (i := 1) (Lens.id T_cube_Cube) (r := y5.1) ty28 (look_t rfl) (hL _ _ rfl rfl) rfl rfl) rfl rfl rfl, fun L' hL => HO.gg (fun hb => r_call en17 (C_law25_bits (condM_some hy7 (decide_eq_true hb))) ⟨look_tc rfl hb, trivial⟩) rfl rfl rfl, fun L' hL => HO.gg (fun hb => r_load (i := 0) (Lens.id (Vector (BitVec 8) 512)) (r := y6.1) ty36 (look_t rfl) (hL _ _ rfl rfl) rfl rfl) rfl rfl rfl, fun L' hL => HO.gg (fun hb => r_neA eqv36 rfl eqg36 rfl (look_tc rfl hb) (look_tc rfl hb)) rfl rfl rfl, fun L' hL => HO.g (fun hb => r_and (look_tc rfl hb) (look_t rfl) (fun h => ⟨hb, h⟩)) rfl rfl rfl, fun L' hL => HO.v (r_or (look_t rfl) (look_t rfl) (fun h => h)) rfl, fun L' hL => HO.v (r_move (look_t rfl)) rfl, fun L' hL => HO.g (fun hb => r_move (look_t rfl)) rfl rfl rfl, fun L' hL => HO.g (fun hb => r_not (look_tc rfl hb)) rfl rfl rfl, fun L' hL => HO.g (fun hb => r_move (look_tc rfl hb)) rfl rfl rfl, fun L' hL => HO.gg (fun hb => r_load (i := 1) (Lens.id T_cube_Cube) (r := y5.1) ty28 (look_t rfl) (hL _ _ rfl rfl) rfl rfl) rfl rfl rfl, fun L' hL => HO.gg (fun hb => r_build (b := (default : T_cube_Cube)) rfl bu28 zr28 (.nil)) rfl rfl rfl, fun L' hL => HO.gg (fun hb => r_neA eqv28 rfl eqg28 rfl (look_tc rfl hb) (look_tc rfl hb)) rfl rfl rfl, fun L' hL => HO.g (fun hb => r_and (look_tc rfl hb) (look_t rfl) (fun h => ⟨hb, h⟩)) rfl rfl rfl, fun L' hL => HO.v ((r_or (look_t rfl) (look_t rfl) (fun h => h)).as (some_in hz1)) rfl, trivial⟩) fun ps1 => ?_
      refine Sq.nil ?_
      refine To.next ?_
      refine Wp.cond (look_t rfl) (fun hc => ?_) (fun hc => ?_)
      · replace h := cond_t hc h
        refine Wp.seq ?_
        refine Wp.reg ?_
        refine Sq.v (r_asg (look_bool false)) rfl rfl rfl ?_
        refine Sq.nil ?_
        refine To.next ?_
        refine Wp.ret ?_
        refine To.ret ?_
        refine To.bret ?_
        refine To.ret ?_
        refine To.bring 4 rfl ?_
        refine To.bring 3 rfl ?_
        refine To.bring 3 rfl ?_
        refine To.bring 3 rfl ?_
        replace h := some_in h
        subst h
        exact To.leaveG () 3 rfl (by simp) rfl (.same rfl (.same rfl (.same rfl (.same rfl (.same rfl (.same rfl (.same rfl (.same rfl (.same rfl (.same rfl (.same rfl .nil)))))))))))
      · replace h := cond_f hc h
        refine Wp.skip ?_
        refine To.next ?_
        refine Wp.seq ?_
        obtain ⟨y8, hy8, h⟩ := bind_some h
        obtain ⟨k1, hk1, h⟩ := bind_some h
        refine Wp.draw mixed 12 [some 67, some 68, some 69, some 70, some 71, some 72, some 73, some 74, some 75, some 76, some 77, some 15] [[], [0], [], [], [2, 3], [], [5], [6], [4, 7], [1, 8], [9], []] [.val (VP.eq (.pointer (some ⟨p1, 0 + 4, none⟩))), .val (VP.of (y2.1.f_Tables)), .val (VP.of (x2)), .val (VP.of (s1.1)), .val (VP.of (w64 (x2 + s1.1))), .val (VP.eq (.pointer (some ⟨p1, 0 + 4, none⟩))), .val (VP.of (y2.1.f_Tables)), .val (VP.of (y2.1.f_Tables.length : Int)), .val (VP.of (y8)), .val (VP.ptr (lget y2.1.f_Tables k1)), .val (VP.of (lget y2.1.f_Tables k1)), .new (.var (default : T_api_Table))] [false, false, false, false, false, false, false, false, false, false, false, false] (by kernel_rfl) rfl rfl rfl (fun ps2 => ⟨fun L' hL => HO.v (r_fa fd84_4 (look_t rfl)) rfl, fun L' hL => HO.v (r_load (i := 4) ((Lens.id T_api_Schema).comp le_T_api_Schema_Tables) (r := y2.1.f_Tables) ty79 (look_t rfl) (hL _ _ rfl rfl) rfl rfl) rfl, fun L' hL => HO.v (r_move (look_t rfl)) rfl, fun L' hL => HO.v (r_move (look_t rfl)) rfl, fun L' hL => HO.v (r_add (look_t rfl) (look_t rfl)) rfl, fun L' hL => HO.v (r_fa fd84_4 (look_t rfl)) rfl, fun L' hL => HO.v (r_load (i := 4) ((Lens.id T_api_Schema).comp le_T_api_Schema_Tables) (r := y2.1.f_Tables) ty79 (look_t rfl) (hL _ _ rfl rfl) rfl rfl) rfl, fun L' hL => HO.v (r_len Try.underlying79 (look_t rfl)) rfl, fun L' hL => HO.v (r_call en20 (C_mcase_Mod hy8) ⟨look_t rfl, look_t rfl, trivial⟩) rfl, fun L' hL => HO.v (r_ias (k := k1) Try.underlying79 ty97 (look_t rfl) (look_t rfl) (idx_some hk1)) rfl, fun L' hL => HO.v (r_loadp ty97 (look_t rfl)) rfl, ao_alloc zr97, trivial⟩) fun ps2 => ?_
        refine Sq.store (i := 0) (Lens.id T_api_Table) (v := (lget y2.1.f_Tables k1 : T_api_Table)) (b' := (lget y2.1.f_Tables k1 : T_api_Table)) ty97 (look_t rfl) (look_t rfl) rfl rfl rfl ?_
        refine Sq.nil ?_
        refine To.next ?_
        refine Wp.seq ?_
        obtain ⟨y9, hy9, h⟩ := bind_some h
        obtain ⟨y10, hy10, h⟩ := bind_some h
        obtain ⟨y11, hy11, h⟩ := bind_some h
        refine Wp.le (E' := [(0, VP.of (x0)), (1, VP.of (x1)), (2, VP.of (x2)), (6, VP.of (false)), (7, VP.eq (.pointer (some ⟨p1, 0, none⟩))), (8, VP.eq (.pointer (some ⟨q3, 0, none⟩))), (9, VP.of (s1.1)), (10, VP.eq (.pointer (some ⟨p2, 0, none⟩))), (11, VP.eq (.pointer (some ⟨p3, 0, none⟩))), (12, VP.of (y5.2)), (13, VP.eq (.pointer (some ⟨p4, 0, none⟩))), (14, VP.of (y6.2)), (15, VP.eq (.pointer (some ⟨(ps2 11), 0, none⟩))), (24, VP.of (s1.1)), (25, VP.of (decide (s1.1 < 5))), (28, VP.eq (.pointer (some ⟨q3, 0, none⟩))), (29, VP.of (y2.1)), (30, VP.of (x2)), (31, VP.of (s1.1)), (32, VP.of (w64 (x2 + s1.1))), (33, VP.of (y4.1)), (34, VP.tup [VP.of (y5.1), VP.of (y5.2)]), (35, VP.of (y2.1)), (36, VP.of (y4.1)), (37, VP.tup [VP.of (y5.1), VP.of (y5.2)]), (38, VP.of (y5.1)), (39, VP.of (y5.2)), (40, VP.tup [VP.of (y6.1), VP.of (y6.2)]), (41, VP.of (y2.1)), (42, VP.of (y4.1)), (43, VP.tup [VP.of (y6.1), VP.of (y6.2)]), (44, VP.of (y6.1)), (45, VP.of (y6.2)), (46, VP.of (y5.2)), (47, VP.of (y6.2)), (48, VP.of (y5.2 != y6.2)), (49, VP.of (y5.2 != y6.2)), (50, VP.cond ((y5.2 != y6.2) = false) (VP.of (y5.2))), (51, VP.cond ((y5.2 != y6.2) = false) (VP.of (y5.2))), (52, VP.cond (((y5.2 != y6.2) = false) ∧ y5.2 = true) (VP.of (y5.1))), (53, VP.cond (((y5.2 != y6.2) = false) ∧ y5.2 = true) (VP.of (y7))), (54, VP.cond (((y5.2 != y6.2) = false) ∧ y5.2 = true) (VP.of (y6.1))), (55, VP.cond (((y5.2 != y6.2) = false) ∧ y5.2 = true) (VP.of (!decide (y7 = y6.1)))), (56, VP.cond ((y5.2 != y6.2) = false) (VP.of (y5.2 && (!decide (y7 = y6.1))))), (57, VP.of ((y5.2 != y6.2) || (y5.2 && (!decide (y7 = y6.1))))), (58, VP.of ((y5.2 != y6.2) || (y5.2 && (!decide (y7 = y6.1))))), (59, VP.cond (((y5.2 != y6.2) || (y5.2 && (!decide (y7 = y6.1)))) = false) (VP.of (y5.2))), (60, VP.cond (((y5.2 != y6.2) || (y5.2 && (!decide (y7 = y6.1)))) = false) (VP.of (!y5.2))), (61, VP.cond (((y5.2 != y6.2) || (y5.2 && (!decide (y7 = y6.1)))) = false) (VP.of (!y5.2))), (62, VP.cond ((((y5.2 != y6.2) || (y5.2 && (!decide (y7 = y6.1)))) = false) ∧ (!y5.2) = true) (VP.of (y5.1))), (63, VP.cond ((((y5.2 != y6.2) || (y5.2 && (!decide (y7 = y6.1)))) = false) ∧ (!y5.2) = true) (VP.of (default : T_cube_Cube))), (64, VP.cond ((((y5.2 != y6.2) || (y5.2 && (!decide (y7 = y6.1)))) = false) ∧ (!y5.2) = true) (VP.of (!decide (y5.1 = (default : T_cube_Cube))))), (65, VP.cond (((y5.2 != y6.2) || (y5.2 && (!decide (y7 = y6.1)))) = false) (VP.of ((!y5.2) && (!decide (y5.1 = (default : T_cube_Cube)))))), (66, VP.of (z1)), (67, VP.eq (.pointer (some ⟨p1, 0 + 4, none⟩))), (68, VP.of (y2.1.f_Tables)), (69, VP.of (x2)), (70, VP.of (s1.1)), (71, VP.of (w64 (x2 + s1.1))), (72, VP.eq (.pointer (some ⟨p1, 0 + 4, none⟩))), (73, VP.of (y2.1.f_Tables)), (74, VP.of (y2.1.f_Tables.length : Int)), (75, VP.of (y8)), (76, VP.ptr (lget y2.1.f_Tables k1)), (77, VP.of (lget y2.1.f_Tables k1))]) (.same rfl (.same rfl (.same rfl (.same rfl (.same rfl (.same rfl (.same rfl (.same rfl (.same rfl (.same rfl (.same rfl (.same rfl (.same rfl (.same rfl (.same rfl (.same rfl (.same rfl (.same rfl (.same rfl (.same rfl (.same rfl (.same rfl (.same rfl (.same rfl (.same rfl (.same rfl (.same rfl (.same rfl (.same rfl (.same rfl (.same rfl (.same rfl (.same rfl (.same rfl (.same rfl (.same rfl (.same rfl (.same rfl (.same rfl (.same rfl (.same rfl (.same rfl (.same rfl (.same rfl (.same rfl (.same rfl (.same rfl (.same rfl (.same rfl (.same rfl (.same rfl (.same rfl (.same rfl (.same rfl (.same rfl (.same rfl (.same rfl (.same rfl (.same rfl (.same rfl (.same rfl (.same rfl (.same rfl (.same rfl (.same rfl .nil))))))))))))))))))))))))))))))))))))))))))))))))))))))))))))))))) ?_
        refine Wp.drawD mixed (⟨some 78, [], [], [], fun _ => VP.eq (.pointer (some ⟨q3, 0, none⟩)), fun _ _ => ⟨none, .dead⟩⟩ :: ⟨some 79, (0 :: []), (4 :: []), (4 :: []), fun _ => VP.of (y9.1), fun hd _ => ⟨some q3, .var (y9.2 : T_mcase_Codes)⟩⟩ :: ⟨some 80, [], (3 :: []), [], fun _ => VP.of (y4.1), fun _ _ => ⟨none, .dead⟩⟩ :: ⟨some 81, [], [], [], fun _ => VP.eq (.pointer (some ⟨q3, 0, none⟩)), fun _ _ => ⟨none, .dead⟩⟩ :: ⟨some 82, (1 :: 3 :: []), (4 :: []), (4 :: []), fun _ => VP.of (y10.1), fun hd _ => ⟨some q3, .var (y10.2 : T_mcase_Codes)⟩⟩ :: ⟨some 83, (2 :: 4 :: []), [], [], fun _ => VP.of (y11), fun _ _ => ⟨none, .dead⟩⟩ :: ⟨some 84, (1 :: 5 :: []), [], [], fun _ => VP.of ([y9.1, y11]), fun _ _ => ⟨none, .dead⟩⟩ :: ⟨some 85, (6 :: []), [], [], fun _ => VP.of ([y9.1, y11].length : Int), fun _ _ => ⟨none, .dead⟩⟩ :: ⟨some 86, [], [], [], fun _ => VP.of (0 : Int), fun _ _ => ⟨none, .dead⟩⟩ :: []) ((some 78, [], [], []) :: (some 79, (0 :: []), (4 :: []), (4 :: [])) :: (some 80, [], (3 :: []), []) :: (some 81, [], [], []) :: (some 82, (1 :: 3 :: []), (4 :: []), (4 :: [])) :: (some 83, (2 :: 4 :: []), [], []) :: (some 84, (1 :: 5 :: []), [], []) :: (some 85, (6 :: []), [], []) :: (some 86, [], [], []) :: []) (0 :: 1 :: 2 :: 6 :: 7 :: 8 :: 9 :: 10 :: 11 :: 12 :: 13 :: 14 :: 15 :: 24 :: 25 :: 28 :: 29 :: 30 :: 31 :: 32 :: 33 :: 34 :: 35 :: 36 :: 37 :: 38 :: 39 :: 40 :: 41 :: 42 :: 43 :: 44 :: 45 :: 46 :: 47 :: 48 :: 49 :: 50 :: 51 :: 52 :: 53 :: 54 :: 55 :: 56 :: 57 :: 58 :: 59 :: 60 :: 61 :: 62 :: 63 :: 64 :: 65 :: 66 :: 67 :: 68 :: 69 :: 70 :: 71 :: 72 :: 73 :: 74 :: 75 :: 76 :: 77 :: []) rfl rfl (by kernel_rfl) ⟨?_, ?_, ?_, ?_, ?_, ?_, ?_, ?_, ?_, trivial⟩ fun hd => ?_
        · exact hd_v rfl rfl rfl fun hd E' L' hE hL => r_move (look_t (hE _ _ rfl))
        · intro hd E' L' hE hL
          refine Sq.bring 4 (hL 4 _ rfl rfl) ?_
          refine Sq.callO (Lin := [⟨some q3, .var (y4.2 : T_mcase_Codes)⟩]) (Lr := L'.eraseIdx 4) en46 (C_mcase_Codes_Point hy9) ⟨look_t (hE _ _ rfl), trivial⟩ rfl fun q6 => ?_
          refine Sq.nil ?_
          refine To.back 4 (hL 4 _ rfl rfl) ?_
          exact To.fin (gm []) rfl rfl
        · exact hd_v rfl rfl rfl fun hd E' L' hE hL => r_load (i := 3) (Lens.id T_api_Entry) (r := y4.1) ty91 (look_t (hE _ _ rfl)) (hL 3 _ rfl rfl) rfl rfl
        · exact hd_v rfl rfl rfl fun hd E' L' hE hL => r_move (look_t (hE _ _ rfl))
        · intro hd E' L' hE hL
          refine Sq.bring 4 (hL 4 _ rfl rfl) ?_
          refine Sq.callO (Lin := [⟨some q3, .var (y9.2 : T_mcase_Codes)⟩]) (Lr := L'.eraseIdx 4) en46 (C_mcase_Codes_Point hy10) ⟨look_t (hE _ _ rfl), trivial⟩ rfl fun q7 => ?_
          refine Sq.nil ?_
          refine To.back 4 (hL 4 _ rfl rfl) ?_
          exact To.fin (gm []) rfl rfl
        · exact hd_v rfl rfl rfl fun hd E' L' hE hL => r_call en47 (C_mcase_Inside hy11) ⟨look_t (hE _ _ rfl), look_t (hE _ _ rfl), trivial⟩
        · exact hd_v rfl rfl rfl fun hd E' L' hE hL => r_bsl (r := [y9.1, y11]) Try.underlying100 ty26 zr26 rfl rfl (.cons (by simp) (look_t (hE _ _ rfl)) (.cons (by simp) (look_t (hE _ _ rfl)) (.nil)))
        · exact hd_v rfl rfl rfl fun hd E' L' hE hL => r_len Try.underlying100 (look_t (hE _ _ rfl))
        · exact hd_v rfl rfl rfl fun hd E' L' hE hL => r_move (look_int 0)
        refine To.eqL (L2 := [⟨some (ps2 11), .var (lget y2.1.f_Tables k1 : T_api_Table)⟩, ⟨some p4, .var (y6.1 : Vector (BitVec 8) 512)⟩, ⟨some p3, .var (y5.1 : T_cube_Cube)⟩, ⟨some p2, .var (y4.1 : T_api_Entry)⟩, ⟨some q3, .var (y10.2 : T_mcase_Codes)⟩, ⟨some p1, .var (y2.1 : T_api_Schema)⟩, ⟨some q1, .var (y2.2 : T_mcase_Codes)⟩]) rfl ?_
        refine To.le (E' := [(0, VP.of (x0)), (1, VP.of (x1)), (2, VP.of (x2)), (6, VP.of (false)), (7, VP.eq (.pointer (some ⟨p1, 0, none⟩))), (8, VP.eq (.pointer (some ⟨q3, 0, none⟩))), (9, VP.of (s1.1)), (10, VP.eq (.pointer (some ⟨p2, 0, none⟩))), (11, VP.eq (.pointer (some ⟨p3, 0, none⟩))), (12, VP.of (y5.2)), (13, VP.eq (.pointer (some ⟨p4, 0, none⟩))), (14, VP.of (y6.2)), (15, VP.eq (.pointer (some ⟨(ps2 11), 0, none⟩))), (24, VP.of (s1.1)), (25, VP.of (decide (s1.1 < 5))), (28, VP.eq (.pointer (some ⟨q3, 0, none⟩))), (29, VP.of (y2.1)), (30, VP.of (x2)), (31, VP.of (s1.1)), (32, VP.of (w64 (x2 + s1.1))), (33, VP.of (y4.1)), (34, VP.tup [VP.of (y5.1), VP.of (y5.2)]), (35, VP.of (y2.1)), (36, VP.of (y4.1)), (37, VP.tup [VP.of (y5.1), VP.of (y5.2)]), (38, VP.of (y5.1)), (39, VP.of (y5.2)), (40, VP.tup [VP.of (y6.1), VP.of (y6.2)]), (41, VP.of (y2.1)), (42, VP.of (y4.1)), (43, VP.tup [VP.of (y6.1), VP.of (y6.2)]), (44, VP.of (y6.1)), (45, VP.of (y6.2)), (46, VP.of (y5.2)), (47, VP.of (y6.2)), (48, VP.of (y5.2 != y6.2)), (49, VP.of (y5.2 != y6.2)), (50, VP.cond ((y5.2 != y6.2) = false) (VP.of (y5.2))), (51, VP.cond ((y5.2 != y6.2) = false) (VP.of (y5.2))), (52, VP.cond (((y5.2 != y6.2) = false) ∧ y5.2 = true) (VP.of (y5.1))), (53, VP.cond (((y5.2 != y6.2) = false) ∧ y5.2 = true) (VP.of (y7))), (54, VP.cond (((y5.2 != y6.2) = false) ∧ y5.2 = true) (VP.of (y6.1))), (55, VP.cond (((y5.2 != y6.2) = false) ∧ y5.2 = true) (VP.of (!decide (y7 = y6.1)))), (56, VP.cond ((y5.2 != y6.2) = false) (VP.of (y5.2 && (!decide (y7 = y6.1))))), (57, VP.of ((y5.2 != y6.2) || (y5.2 && (!decide (y7 = y6.1))))), (58, VP.of ((y5.2 != y6.2) || (y5.2 && (!decide (y7 = y6.1))))), (59, VP.cond (((y5.2 != y6.2) || (y5.2 && (!decide (y7 = y6.1)))) = false) (VP.of (y5.2))), (60, VP.cond (((y5.2 != y6.2) || (y5.2 && (!decide (y7 = y6.1)))) = false) (VP.of (!y5.2))), (61, VP.cond (((y5.2 != y6.2) || (y5.2 && (!decide (y7 = y6.1)))) = false) (VP.of (!y5.2))), (62, VP.cond ((((y5.2 != y6.2) || (y5.2 && (!decide (y7 = y6.1)))) = false) ∧ (!y5.2) = true) (VP.of (y5.1))), (63, VP.cond ((((y5.2 != y6.2) || (y5.2 && (!decide (y7 = y6.1)))) = false) ∧ (!y5.2) = true) (VP.of (default : T_cube_Cube))), (64, VP.cond ((((y5.2 != y6.2) || (y5.2 && (!decide (y7 = y6.1)))) = false) ∧ (!y5.2) = true) (VP.of (!decide (y5.1 = (default : T_cube_Cube))))), (65, VP.cond (((y5.2 != y6.2) || (y5.2 && (!decide (y7 = y6.1)))) = false) (VP.of ((!y5.2) && (!decide (y5.1 = (default : T_cube_Cube)))))), (66, VP.of (z1)), (67, VP.eq (.pointer (some ⟨p1, 0 + 4, none⟩))), (68, VP.of (y2.1.f_Tables)), (69, VP.of (x2)), (70, VP.of (s1.1)), (71, VP.of (w64 (x2 + s1.1))), (72, VP.eq (.pointer (some ⟨p1, 0 + 4, none⟩))), (73, VP.of (y2.1.f_Tables)), (74, VP.of (y2.1.f_Tables.length : Int)), (75, VP.of (y8)), (76, VP.ptr (lget y2.1.f_Tables k1)), (77, VP.of (lget y2.1.f_Tables k1)), (78, VP.eq (.pointer (some ⟨q3, 0, none⟩))), (79, VP.of (y9.1)), (80, VP.of (y4.1)), (81, VP.eq (.pointer (some ⟨q3, 0, none⟩))), (82, VP.of (y10.1)), (83, VP.of (y11)), (84, VP.of ([y9.1, y11])), (85, VP.of ([y9.1, y11].length : Int)), (86, VP.of (0 : Int))]) (.same rfl (.same rfl (.same rfl (.same rfl (.same rfl (.same rfl (.same rfl (.same rfl (.same rfl (.same rfl (.same rfl (.same rfl (.same rfl (.same rfl (.same rfl (.same rfl (.same rfl (.same rfl (.same rfl (.same rfl (.same rfl (.same rfl (.same rfl (.same rfl (.same rfl (.same rfl (.same rfl (.same rfl (.same rfl (.same rfl (.same rfl (.same rfl (.same rfl (.same rfl (.same rfl (.same rfl (.same rfl (.same rfl (.same rfl (.same rfl (.same rfl (.same rfl (.same rfl (.same rfl (.same rfl (.same rfl (.same rfl (.same rfl (.same rfl (.same rfl (.same rfl (.same rfl (.same rfl (.same rfl (.same rfl (.same rfl (.same rfl (.same rfl (.same rfl (.same rfl (.same rfl (.same rfl (.same rfl (.same rfl (.same rfl (.same rfl (.same rfl (.same rfl (.same rfl (.same rfl (.same rfl (.same rfl (.same rfl (.same rfl .nil)))))))))))))))))))))))))))))))))))))))))))))))))))))))))))))))))))))))))) ?_
        refine To.next ?_
        refine Wp.block ?_
        obtain ⟨e2, hl, h⟩ := bind_some h
        refine Wp.loopG (σ := Int) (ε := (Int × Bool) ⊕ (Int × Bool × Int × Bool × Bool)) (γ := Unit) (δ := Unit) hl (fun s2 g2 => [(0, VP.of (x0)), (1, VP.of (x1)), (2, VP.of (x2)), (6, VP.of (false)), (7, VP.eq (.pointer (some ⟨p1, 0, none⟩))), (8, VP.eq (.pointer (some ⟨q3, 0, none⟩))), (9, VP.of (s1.1)), (10, VP.eq (.pointer (some ⟨p2, 0, none⟩))), (11, VP.eq (.pointer (some ⟨p3, 0, none⟩))), (12, VP.of (y5.2)), (13, VP.eq (.pointer (some ⟨p4, 0, none⟩))), (14, VP.of (y6.2)), (15, VP.eq (.pointer (some ⟨(ps2 11), 0, none⟩))), (25, VP.of (decide (s1.1 < 5))), (66, VP.of (z1)), (84, VP.of ([y9.1, y11])), (85, VP.of ([y9.1, y11].length : Int)), (86, VP.of (s2))]) (fun s2 g2 => [⟨some (ps2 11), .var (lget y2.1.f_Tables k1 : T_api_Table)⟩, ⟨some p4, .var (y6.1 : Vector (BitVec 8) 512)⟩, ⟨some p3, .var (y5.1 : T_cube_Cube)⟩, ⟨some p2, .var (y4.1 : T_api_Entry)⟩, ⟨some q3, .var (y10.2 : T_mcase_Codes)⟩, ⟨some p1, .var (y2.1 : T_api_Schema)⟩, ⟨some q1, .var (y2.2 : T_mcase_Codes)⟩]) (fun q8 => Sum.elim (fun q8 => Exit.exit 2) (fun q8 => Exit.ret) q8) (fun q8 g2 => Sum.elim (fun q8 => [(0, VP.of (x0)), (1, VP.of (x1)), (2, VP.of (x2)), (6, VP.of (false)), (7, VP.eq (.pointer (some ⟨p1, 0, none⟩))), (8, VP.eq (.pointer (some ⟨q3, 0, none⟩))), (9, VP.of (s1.1)), (10, VP.eq (.pointer (some ⟨p2, 0, none⟩))), (11, VP.eq (.pointer (some ⟨p3, 0, none⟩))), (12, VP.of (y5.2)), (13, VP.eq (.pointer (some ⟨p4, 0, none⟩))), (14, VP.of (y6.2)), (15, VP.eq (.pointer (some ⟨(ps2 11), 0, none⟩))), (25, VP.of (decide (s1.1 < 5))), (66, VP.of (z1)), (84, VP.of ([y9.1, y11])), (85, VP.of ([y9.1, y11].length : Int)), (86, VP.of (q8.1)), (87, VP.of (q8.2))]) (fun q8 => [(0, VP.of (x0)), (1, VP.of (x1)), (2, VP.of (x2)), (6, VP.of (false)), (7, VP.eq (.pointer (some ⟨p1, 0, none⟩))), (8, VP.eq (.pointer (some ⟨q3, 0, none⟩))), (9, VP.of (s1.1)), (10, VP.eq (.pointer (some ⟨p2, 0, none⟩))), (11, VP.eq (.pointer (some ⟨p3, 0, none⟩))), (12, VP.of (y5.2)), (13, VP.eq (.pointer (some ⟨p4, 0, none⟩))), (14, VP.of (y6.2)), (15, VP.eq (.pointer (some ⟨(ps2 11), 0, none⟩))), (25, VP.of (decide (s1.1 < 5))), (66, VP.of (z1)), (84, VP.of ([y9.1, y11])), (85, VP.of ([y9.1, y11].length : Int)), (86, VP.of (q8.1)), (87, VP.of (q8.2.1)), (90, VP.of (q8.2.2.1)), (91, VP.of (q8.2.2.2.1)), (119, VP.of (q8.2.2.2.2))]) q8) (fun q8 g2 => Sum.elim (fun q8 => [⟨some (ps2 11), .var (lget y2.1.f_Tables k1 : T_api_Table)⟩, ⟨some p4, .var (y6.1 : Vector (BitVec 8) 512)⟩, ⟨some p3, .var (y5.1 : T_cube_Cube)⟩, ⟨some p2, .var (y4.1 : T_api_Entry)⟩, ⟨some q3, .var (y10.2 : T_mcase_Codes)⟩, ⟨some p1, .var (y2.1 : T_api_Schema)⟩, ⟨some q1, .var (y2.2 : T_mcase_Codes)⟩]) (fun q8 => [⟨some (ps2 11), .var (lget y2.1.f_Tables k1 : T_api_Table)⟩, ⟨some p4, .var (y6.1 : Vector (BitVec 8) 512)⟩, ⟨some p3, .var (y5.1 : T_cube_Cube)⟩, ⟨some p2, .var (y4.1 : T_api_Entry)⟩, ⟨some q3, .var (y10.2 : T_mcase_Codes)⟩, ⟨some p1, .var (y2.1 : T_api_Schema)⟩, ⟨some q1, .var (y2.2 : T_mcase_Codes)⟩]) q8) () rfl (.same rfl (.same rfl (.same rfl (.same rfl (.same rfl (.same rfl (.same rfl (.same rfl (.same rfl (.same rfl (.same rfl (.same rfl (.same rfl (.same rfl (.same rfl (.same rfl (.same rfl (.same rfl .nil)))))))))))))))))) (fun s2 r h g2 => ?_) (fun g2 => ?_)
        · clear hl
          refine Wp.seq ?_
          refine Wp.reg ?_
          refine Sq.v (r_lss (look_t rfl) (look_t rfl)) rfl rfl rfl ?_
          refine Sq.nil ?_
          refine To.next ?_
          refine Wp.seq ?_
          refine Wp.cond (look_t rfl) (fun hc => ?_) (fun hc => ?_)
          · replace h := cond_t hc h
            refine Wp.skip ?_
            refine To.next ?_
            refine Wp.seq ?_
            refine Wp.block ?_
            refine Wp.seq ?_
            refine Wp.reg ?_
            obtain ⟨k2, hk2, h⟩ := bind_some h
            refine Sq.v (r_ias (k := k2) Try.underlying100 ty26 (look_t rfl) (look_t rfl) (idx_some hk2)) rfl rfl rfl ?_
            refine Sq.v (r_loadp ty26 (look_t rfl)) rfl rfl rfl ?_
            refine Sq.alloc zr26 rfl fun p5 => ?_
            refine Sq.store (i := 0) (Lens.id (Vector T_api_Value 4)) (v := (lget [y9.1, y11] k2 : Vector T_api_Value 4)) (b' := (lget [y9.1, y11] k2 : Vector T_api_Value 4)) ty26 (look_t rfl) (look_t rfl) rfl rfl rfl ?_
            refine Sq.nil ?_
            refine To.next ?_
            refine Wp.seq ?_
            refine Wp.seq ?_
            refine Wp.reg ?_
            refine Sq.v (r_move (look_int 0)) rfl rfl rfl ?_
            refine Sq.nil ?_
            refine To.next ?_
            refine Wp.block ?_
            obtain ⟨e3, hl, h⟩ := bind_some h
            refine Wp.loopG (σ := Int × (Vector T_api_Value 4)) (ε := (Int × Bool × (Vector T_api_Value 4))) (γ := Unit) (δ := Unit) hl (fun s3 g3 => [(0, VP.of (x0)), (1, VP.of (x1)), (2, VP.of (x2)), (6, VP.of (false)), (7, VP.eq (.pointer (some ⟨p1, 0, none⟩))), (8, VP.eq (.pointer (some ⟨q3, 0, none⟩))), (9, VP.of (s1.1)), (10, VP.eq (.pointer (some ⟨p2, 0, none⟩))), (11, VP.eq (.pointer (some ⟨p3, 0, none⟩))), (12, VP.of (y5.2)), (13, VP.eq (.pointer (some ⟨p4, 0, none⟩))), (14, VP.of (y6.2)), (15, VP.eq (.pointer (some ⟨(ps2 11), 0, none⟩))), (17, VP.eq (.pointer (some ⟨p5, 0, none⟩))), (25, VP.of (decide (s1.1 < 5))), (66, VP.of (z1)), (84, VP.of ([y9.1, y11])), (85, VP.of ([y9.1, y11].length : Int)), (86, VP.of (s2)), (87, VP.of (decide (s2 < ([y9.1, y11].length : Int)))), (90, VP.of (s3.1))]) (fun s3 g3 => [⟨some p5, .var (s3.2 : Vector T_api_Value 4)⟩, ⟨some (ps2 11), .var (lget y2.1.f_Tables k1 : T_api_Table)⟩, ⟨some p4, .var (y6.1 : Vector (BitVec 8) 512)⟩, ⟨some p3, .var (y5.1 : T_cube_Cube)⟩, ⟨some p2, .var (y4.1 : T_api_Entry)⟩, ⟨some q3, .var (y10.2 : T_mcase_Codes)⟩, ⟨some p1, .var (y2.1 : T_api_Schema)⟩, ⟨some q1, .var (y2.2 : T_mcase_Codes)⟩]) (fun q9 => Exit.exit 4) (fun q9 g3 => [(0, VP.of (x0)), (1, VP.of (x1)), (2, VP.of (x2)), (6, VP.of (false)), (7, VP.eq (.pointer (some ⟨p1, 0, none⟩))), (8, VP.eq (.pointer (some ⟨q3, 0, none⟩))), (9, VP.of (s1.1)), (10, VP.eq (.pointer (some ⟨p2, 0, none⟩))), (11, VP.eq (.pointer (some ⟨p3, 0, none⟩))), (12, VP.of (y5.2)), (13, VP.eq (.pointer (some ⟨p4, 0, none⟩))), (14, VP.of (y6.2)), (15, VP.eq (.pointer (some ⟨(ps2 11), 0, none⟩))), (17, VP.eq (.pointer (some ⟨p5, 0, none⟩))), (25, VP.of (decide (s1.1 < 5))), (66, VP.of (z1)), (84, VP.of ([y9.1, y11])), (85, VP.of ([y9.1, y11].length : Int)), (86, VP.of (s2)), (87, VP.of (decide (s2 < ([y9.1, y11].length : Int)))), (90, VP.of (q9.1)), (91, VP.of (q9.2.1))]) (fun q9 g3 => [⟨some p5, .var (q9.2.2 : Vector T_api_Value 4)⟩, ⟨some (ps2 11), .var (lget y2.1.f_Tables k1 : T_api_Table)⟩, ⟨some p4, .var (y6.1 : Vector (BitVec 8) 512)⟩, ⟨some p3, .var (y5.1 : T_cube_Cube)⟩, ⟨some p2, .var (y4.1 : T_api_Entry)⟩, ⟨some q3, .var (y10.2 : T_mcase_Codes)⟩, ⟨some p1, .var (y2.1 : T_api_Schema)⟩, ⟨some q1, .var (y2.2 : T_mcase_Codes)⟩]) () rfl (.same rfl (.same rfl (.same rfl (.same rfl (.same rfl (.same rfl (.same rfl (.same rfl (.same rfl (.same rfl (.same rfl (.same rfl (.same rfl (.same rfl (.same rfl (.same rfl (.same rfl (.same rfl (.same rfl (.same rfl (.same rfl .nil))))))))))))))))))))) (fun s3 r h g3 => ?_) (fun g3 => ?_)
            · clear hl
              refine Wp.seq ?_
              refine Wp.reg ?_
              refine Sq.v (r_lss (look_t rfl) (look_int 4)) rfl rfl rfl ?_
              refine Sq.nil ?_
              refine To.next ?_
              refine Wp.seq ?_
              refine Wp.cond (look_t rfl) (fun hc => ?_) (fun hc => ?_)
              · replace h := cond_t hc h
                refine Wp.skip ?_
                refine To.next ?_
                refine Wp.seq ?_
                refine Wp.block ?_
                refine Wp.seq ?_
                refine Wp.reg ?_
                refine Sq.v (r_move (look_t rfl)) rfl rfl rfl ?_
                refine Sq.v (r_asg (look_t rfl)) rfl rfl rfl ?_
                refine Sq.nil ?_
                refine To.next ?_
                refine Wp.seq ?_
                refine Wp.reg ?_
                refine Sq.v (r_move (look_t rfl)) rfl rfl rfl ?_
                refine Sq.v (r_fa fd97_2 (look_t rfl)) rfl rfl rfl ?_
                refine Sq.v (r_load (i := 1) ((Lens.id T_api_Table).comp le_T_api_Table_Keys) (r := (lget y2.1.f_Tables k1).f_Keys) ty95 (look_t rfl) rfl rfl rfl) rfl rfl rfl ?_
                refine Sq.v (r_len Try.underlying95 (look_t rfl)) rfl rfl rfl ?_
                refine Sq.v (r_lss (look_t rfl) (look_t rfl)) rfl rfl rfl ?_
                refine Sq.nil ?_
                refine To.next ?_
                obtain ⟨m1, hm1, h⟩ := bind_some h
                refine Wp.condM (γ := Unit) (fun g4 => [(0, VP.of (x0)), (1, VP.of (x1)), (2, VP.of (x2)), (6, VP.of (false)), (7, VP.eq (.pointer (some ⟨p1, 0, none⟩))), (8, VP.eq (.pointer (some ⟨q3, 0, none⟩))), (9, VP.of (s1.1)), (10, VP.eq (.pointer (some ⟨p2, 0, none⟩))), (11, VP.eq (.pointer (some ⟨p3, 0, none⟩))), (12, VP.of (y5.2)), (13, VP.eq (.pointer (some ⟨p4, 0, none⟩))), (14, VP.of (y6.2)), (15, VP.eq (.pointer (some ⟨(ps2 11), 0, none⟩))), (17, VP.eq (.pointer (some ⟨p5, 0, none⟩))), (18, VP.of (s3.1)), (25, VP.of (decide (s1.1 < 5))), (66, VP.of (z1)), (84, VP.of ([y9.1, y11])), (85, VP.of ([y9.1, y11].length : Int)), (86, VP.of (s2)), (87, VP.of (decide (s2 < ([y9.1, y11].length : Int)))), (90, VP.of (s3.1)), (91, VP.of (decide (s3.1 < 4))), (97, VP.of (decide (s3.1 < (((lget y2.1.f_Tables k1).f_Keys).length : Int))))]) (fun g4 => [⟨some p5, .var (m1 : Vector T_api_Value 4)⟩, ⟨some (ps2 11), .var (lget y2.1.f_Tables k1 : T_api_Table)⟩, ⟨some p4, .var (y6.1 : Vector (BitVec 8) 512)⟩, ⟨some p3, .var (y5.1 : T_cube_Cube)⟩, ⟨some p2, .var (y4.1 : T_api_Entry)⟩, ⟨some q3, .var (y10.2 : T_mcase_Codes)⟩, ⟨some p1, .var (y2.1 : T_api_Schema)⟩, ⟨some q1, .var (y2.2 : T_mcase_Codes)⟩]) (look_t rfl) (fun g4 => ?_) (fun hm hc => ?_) (fun hm hc => ?_)
                · clear hm1
                  refine To.bnorm ?_
                  refine To.next ?_
                  refine Wp.reg ?_
                  refine Sq.v (r_add (look_t rfl) (look_int 1)) rfl rfl rfl ?_
                  refine Sq.v (r_move (look_t rfl)) rfl rfl rfl ?_
                  refine Sq.nil ?_
                  replace h := some_in h
                  subst h
                  exact To.roundG () 0 rfl (.same rfl (.same rfl (.same rfl (.same rfl (.same rfl (.same rfl (.same rfl (.same rfl (.same rfl (.same rfl (.same rfl (.same rfl (.same rfl (.same rfl (.same rfl (.same rfl (.same rfl (.same rfl (.same rfl (.same rfl (.same rfl .nil)))))))))))))))))))))
                · have h := cond_t hc hm1
                  obtain ⟨k3, hk3, h⟩ := bind_some h
                  obtain ⟨y12, hy12, h⟩ := bind_some h
                  obtain ⟨y13, hy13, h⟩ := bind_some h
                  obtain ⟨k4, hk4, h⟩ := bind_some h
                  refine Wp.draw mixed 10 [some 98, some 99, some 100, some 101, some 102, some 103, some 104, some 105, some 106, some 107] [[], [], [1], [2], [], [], [], [4, 5, 6], [3, 7], [0]] [.val (VP.of (s3.1)), .val (VP.of (s3.1)), .val (VP.eq (.pointer (some ⟨p5, 0 + k3 * 2, none⟩))), .val (VP.of (vget s3.2 k3)), .val (VP.of (y2.1)), .val (VP.of (lget y2.1.f_Tables k1)), .val (VP.of (s3.1)), .val (VP.of (y12)), .val (VP.of (y13)), .val (VP.eq (.pointer (some ⟨p5, 0 + k4 * 2, none⟩)))] [false, false, false, false, false, false, false, false, false, false] (by kernel_rfl) rfl rfl rfl (fun ps3 => ⟨fun L' hL => HO.v (r_move (look_t rfl)) rfl, fun L' hL => HO.v (r_move (look_t rfl)) rfl, fun L' hL => HO.v (r_ia (k := k3) ar26 (look_t rfl) (look_t rfl) (idx_some hk3)) rfl, fun L' hL => HO.v (r_load (i := 0) ((Lens.id (Vector T_api_Value 4)).comp (Lens.idx (α := T_api_Value) 4 k3 (idx_some hk3).1)) (r := vget s3.2 k3) ty24 (look_t rfl) (hL _ _ rfl rfl) rfl rfl) rfl, fun L' hL => HO.v (r_load (i := 6) (Lens.id T_api_Schema) (r := y2.1) ty84 (look_t rfl) (hL _ _ rfl rfl) rfl rfl) rfl, fun L' hL => HO.v (r_load (i := 1) (Lens.id T_api_Table) (r := (lget y2.1.f_Tables k1)) ty97 (look_t rfl) (hL _ _ rfl rfl) rfl rfl) rfl, fun L' hL => HO.v (r_move (look_t rfl)) rfl, fun L' hL => HO.v (r_call en49 (C_ref04_KeyBits hy12) ⟨look_t rfl, look_t rfl, look_t rfl, trivial⟩) rfl, fun L' hL => HO.v (r_call en48 (C_mcase_Low hy13) ⟨look_t rfl, look_t rfl, trivial⟩) rfl, fun L' hL => HO.v (r_ia (k := k4) ar26 (look_t rfl) (look_t rfl) (idx_some hk4)) rfl, trivial⟩) fun ps3 => ?_
                  refine Sq.store (i := 0) ((Lens.id (Vector T_api_Value 4)).comp (Lens.idx (α := T_api_Value) 4 k4 (idx_some hk4).1)) (v := (y13 : T_api_Value)) (b' := (vset s3.2 k4 y13 : Vector T_api_Value 4)) ty24 (look_t rfl) (look_t rfl) rfl rfl rfl ?_
                  refine Sq.nil ?_
                  replace h := some_in h
                  subst h
                  exact To.meet 0 rfl (.same rfl (.same rfl (.same rfl (.same rfl (.same rfl (.same rfl (.same rfl (.same rfl (.same rfl (.same rfl (.same rfl (.same rfl (.same rfl (.same rfl (.same rfl (.same rfl (.same rfl (.same rfl (.same rfl (.same rfl (.same rfl (.same rfl (.same rfl (.same rfl .nil)))))))))))))))))))))))) (hm ())
                · have h := cond_f hc hm1
                  refine Wp.skip ?_
                  replace h := some_in h
                  subst h
                  exact To.meet 0 rfl (.same rfl (.same rfl (.same rfl (.same rfl (.same rfl (.same rfl (.same rfl (.same rfl (.same rfl (.same rfl (.same rfl (.same rfl (.same rfl (.same rfl (.same rfl (.same rfl (.same rfl (.same rfl (.same rfl (.same rfl (.same rfl (.same rfl (.same rfl (.same rfl .nil)))))))))))))))))))))))) (hm ())
              · replace h := cond_f hc h
                refine Wp.exit ?_
                refine To.exit ?_
                replace h := some_in h
                subst h
                exact To.leaveG () 0 rfl (by simp) rfl (.same rfl (.same rfl (.same rfl (.same rfl (.same rfl (.same rfl (.same rfl (.same rfl (.same rfl (.same rfl (.same rfl (.same rfl (.same rfl (.same rfl (.same rfl (.same rfl (.same rfl (.same rfl (.same rfl (.same rfl (.same rfl (.same rfl .nil))))))))))))))))))))))
            · clear hl
              refine To.bexit ?_
              refine To.next ?_
              refine Wp.seq ?_
              obtain ⟨y14, hy14, h⟩ := bind_some h
              obtain ⟨y15, hy15, h⟩ := bind_some h
              refine Wp.draw mixed 11 [some 109, some 110, some 111, some 112, some 113, some 114, some 115, some 116, some 117, some 118, some 119] [[], [0], [1], [1], [1, 2, 3], [1], [1], [1], [1, 5, 6, 7], [1, 4, 8], [1, 9]] [.val (VP.of (y5.2)), .val (VP.of (y5.2)), .val (VP.cond (y5.2 = true) (VP.of (y5.1))), .val (VP.cond (y5.2 = true) (VP.of (e3.2.2))), .val (VP.cond (y5.2 = true) (VP.of (y14))), .val (VP.cond (y5.2 = true) (VP.of (y2.1))), .val (VP.cond (y5.2 = true) (VP.of (y4.1))), .val (VP.cond (y5.2 = true) (VP.of (e3.2.2))), .val (VP.cond (y5.2 = true) (VP.of (y15))), .val (VP.cond (y5.2 = true) (VP.of (y14 != y15))), .val (VP.of (y5.2 && (y14 != y15)))] [false, false, false, false, false, false, false, false, false, false, false] (by kernel_rfl) rfl rfl rfl (fun ps4 => ⟨fun L' hL => HO.v (r_move (look_t rfl)) rfl, fun L' hL => HO.v (r_move (look_t rfl)) rfl, fun L' hL => HO.g (fun hb => r_load (i := 3) (Lens.id T_cube_Cube) (r := y5.1) ty28 (look_t rfl) (hL _ _ rfl rfl) rfl rfl) rfl rfl rfl, fun L' hL => HO.g (fun hb => r_load (i := 0) (Lens.id (Vector T_api_Value 4)) (r := e3.2.2) ty26 (look_t rfl) (hL _ _ rfl rfl) rfl rfl) rfl rfl rfl, fun L' hL => HO.g (fun hb => r_call en25 (C_cube_Contains (condM_some hy14 hb)) ⟨look_tc rfl hb, look_tc rfl hb, trivial⟩) rfl rfl rfl, fun L' hL => HO.g (fun hb => r_load (i := 6) (Lens.id T_api_Schema) (r := y2.1) ty84 (look_t rfl) (hL _ _ rfl rfl) rfl rfl) rfl rfl rfl, fun L' hL => HO.g (fun hb => r_load (i := 4) (Lens.id T_api_Entry) (r := y4.1) ty91 (look_t rfl) (hL _ _ rfl rfl) rfl rfl) rfl rfl rfl, fun L' hL => HO.g (fun hb => r_load (i := 0) (Lens.id (Vector T_api_Value 4)) (r := e3.2.2) ty26 (look_t rfl) (hL _ _ rfl rfl) rfl rfl) rfl rfl rfl, fun L' hL => HO.g (fun hb => r_call en50 (C_entry_Matches (condM_some hy15 hb)) ⟨look_tc rfl hb, look_tc rfl hb, look_tc rfl hb, trivial⟩) rfl rfl rfl, fun L' hL => HO.g (fun hb => r_bne Try.underlying4 (look_tc rfl hb) (look_tc rfl hb)) rfl rfl rfl, fun L' hL => HO.v (r_and (look_t rfl) (look_t rfl) (fun h => h)) rfl, trivial⟩) fun ps4 => ?_
              refine Sq.nil ?_
              refine To.next ?_
              refine Wp.cond (look_t rfl) (fun hc => ?_) (fun hc => ?_)
              · replace h := cond_t hc h
                refine Wp.seq ?_
                refine Wp.reg ?_
                refine Sq.v (r_asg (look_bool false)) rfl rfl rfl ?_
                refine Sq.nil ?_
                refine To.next ?_
                refine Wp.ret ?_
                refine To.bret ?_
                refine To.ret ?_
                replace h := some_in h
                subst h
                exact To.leaveG () 1 rfl (by simp) rfl (.same rfl (.same rfl (.same rfl (.same rfl (.same rfl (.same rfl (.same rfl (.same rfl (.same rfl (.same rfl (.same rfl (.same rfl (.same rfl (.same rfl (.same rfl (.same rfl (.same rfl (.same rfl (.same rfl (.same rfl (.same rfl (.same rfl .nil))))))))))))))))))))))
              · replace h := cond_f hc h
                refine Wp.skip ?_
                refine To.bnorm ?_
                refine To.next ?_
                refine Wp.reg ?_
                refine Sq.v (r_add (look_t rfl) (look_int 1)) rfl rfl rfl ?_
                refine Sq.v (r_move (look_t rfl)) rfl rfl rfl ?_
                refine Sq.nil ?_
                replace h := some_in h
                subst h
                exact To.roundG () 1 rfl (.same rfl (.same rfl (.same rfl (.same rfl (.same rfl (.same rfl (.same rfl (.same rfl (.same rfl (.same rfl (.same rfl (.same rfl (.same rfl (.same rfl (.same rfl (.same rfl (.same rfl (.same rfl .nil))))))))))))))))))
          · replace h := cond_f hc h
            refine Wp.exit ?_
            refine To.exit ?_
            replace h := some_in h
            subst h
            exact To.leaveG () 0 rfl (by simp) rfl (.same rfl (.same rfl (.same rfl (.same rfl (.same rfl (.same rfl (.same rfl (.same rfl (.same rfl (.same rfl (.same rfl (.same rfl (.same rfl (.same rfl (.same rfl (.same rfl (.same rfl (.same rfl (.same rfl .nil)))))))))))))))))))
        · clear hl
          rcases e2 with e2 | e2
          · simp only [Sum.elim_inl] at h
            refine To.bexit ?_
            refine To.bnorm ?_
            refine To.next ?_
            refine Wp.reg ?_
            refine Sq.v (r_move (look_t rfl)) rfl rfl rfl ?_
            refine Sq.v (r_add (look_t rfl) (look_int 1)) rfl rfl rfl ?_
            refine Sq.v (r_asg (look_t rfl)) rfl rfl rfl ?_
            refine Sq.nil ?_
            refine To.bring 5 rfl ?_
            refine To.bring 4 rfl ?_
            refine To.bring 4 rfl ?_
            refine To.bring 4 rfl ?_
            refine To.bring 4 rfl ?_
            replace h := some_in h
            subst h
            exact To.roundG () 4 rfl (.same rfl (.same rfl (.same rfl (.same rfl (.same rfl (.same rfl (.same rfl .nil)))))))
          · simp only [Sum.elim_inr] at h
            refine To.bret ?_
            refine To.bret ?_
            refine To.ret ?_
            refine To.bring 5 rfl ?_
            refine To.bring 4 rfl ?_
            refine To.bring 4 rfl ?_
            refine To.bring 4 rfl ?_
            refine To.bring 4 rfl ?_
            replace h := some_in h
            subst h
            exact To.leaveG () 4 rfl (by simp) rfl (.same rfl (.same rfl (.same rfl (.same rfl (.same rfl (.same rfl (.same rfl (.same rfl (.same rfl (.same rfl (.same rfl .nil)))))))))))
    · replace h := cond_f hc h
      refine Wp.exit ?_
      refine To.exit ?_
      replace h := some_in h
      subst h
      exact To.leaveG () 0 rfl (by simp) rfl (.same rfl (.same rfl (.same rfl (.same rfl (.same rfl (.same rfl (.same rfl (.same rfl .nil))))))))
  · clear hl
    rcases e1 with e1 | e1
    · simp only [Sum.elim_inl] at h
      refine To.bexit ?_
      refine To.next ?_
      refine Wp.seq ?_
      refine Wp.reg ?_
      obtain ⟨y16, hy16, h⟩ := bind_some h
      refine Sq.v (r_call en19 (C_law25_begun hy16) trivial) rfl rfl rfl ?_
      refine Sq.v (r_asg (look_t rfl)) rfl rfl rfl ?_
      refine Sq.nil ?_
      refine To.next ?_
      refine Wp.ret ?_
      replace h := some_in h
      subst h
      exact To.end1 rfl (rv_t rfl)
    · simp only [Sum.elim_inr] at h
      refine To.bret ?_
      refine To.ret ?_
      replace h := some_in h
      subst h
      exact To.end1 rfl (rv_t rfl)
end Go.Proofs.Ytabodolbdalimaa
