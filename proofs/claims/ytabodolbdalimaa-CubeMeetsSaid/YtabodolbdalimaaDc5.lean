/-
  Printed by the decompiler (dec.py) out of the seat's translation. Each function meets its functional program. Conditions: none.
-/
import Derived.Test.YtabodolbdalimaaDc4
namespace Go.Proofs.Ytabodolbdalimaa
open Go Gv
set_option linter.unusedVariables false
set_option linter.unusedSimpArgs false
set_option maxRecDepth 100000
set_option maxHeartbeats 2000000 in
theorem C_law25_CubeMeets {x0 : Vector T_api_Value 4} {x1 : Vector T_api_Value 4} {x2 : Vector T_api_Value 4} {x3 : Vector T_api_Value 4} {x4 : Vector T_api_Value 4} {r : Bool} (h : L_law25_CubeMeets x0 x1 x2 x3 x4 = some r) : Meets Try.prog 6 [VP.of (x0), VP.of (x1), VP.of (x2), VP.of (x3), VP.of (x4)] (VP.of (r)) := by
  unfold L_law25_CubeMeets at h
  refine Meets.of Try.func6 rfl Try.ntmps6 rfl fun W A => ?_
  refine Wp.seq ?_
  refine Wp.reg ?_
  refine Sq.box (z := (x0 : Vector T_api_Value 4)) (look_t rfl) rfl fun p1 => ?_
  refine Sq.box (z := (x1 : Vector T_api_Value 4)) (look_t rfl) rfl fun p2 => ?_
  refine Sq.box (z := (x2 : Vector T_api_Value 4)) (look_t rfl) rfl fun p3 => ?_
  refine Sq.box (z := (x3 : Vector T_api_Value 4)) (look_t rfl) rfl fun p4 => ?_
  refine Sq.box (z := (x4 : Vector T_api_Value 4)) (look_t rfl) rfl fun p5 => ?_
  refine Sq.v (r_asg (look_bool false)) rfl rfl rfl ?_
  refine Sq.nil ?_
  refine To.next ?_
  refine Wp.seq ?_
  obtain ⟨y1, hy1, h⟩ := bind_some h
  obtain ⟨y2, hy2, h⟩ := bind_some h
  refine Wp.draw mixed 10 [some 23, some 24, some 25, some 26, some 27, some 28, some 29, some 30, some 11, some 12] [[], [], [0, 1], [2], [], [], [4, 5], [6], [], []] [.val (VP.of (x0)), .val (VP.of (x1)), .val (VP.of ({ f_Value := x0, f_Mask := x1 : T_cube_Cube })), .val (VP.of (y1)), .val (VP.of (x2)), .val (VP.of (x3)), .val (VP.of ({ f_Value := x2, f_Mask := x3 : T_cube_Cube })), .val (VP.of (y2)), .new (.var (default : T_cube_Cube)), .new (.var (default : T_cube_Cube))] [false, false, false, false, false, false, false, false, false, false] (by kernel_rfl) rfl rfl rfl (fun ps1 => ⟨fun L' hL => HO.v (r_load (i := 4) (Lens.id (Vector T_api_Value 4)) (r := x0) ty26 (look_t rfl) (hL _ _ rfl rfl) rfl rfl) rfl, fun L' hL => HO.v (r_load (i := 3) (Lens.id (Vector T_api_Value 4)) (r := x1) ty26 (look_t rfl) (hL _ _ rfl rfl) rfl rfl) rfl, fun L' hL => HO.v (r_build (b := { f_Value := x0, f_Mask := x1 : T_cube_Cube }) rfl bu28 zr28 (.cons le_T_cube_Cube_Value rfl (look_t rfl) rfl (.cons le_T_cube_Cube_Mask rfl (look_t rfl) rfl (.nil)))) rfl, fun L' hL => HO.v (r_call en13 (C_law25_canonical hy1) ⟨look_t rfl, trivial⟩) rfl, fun L' hL => HO.v (r_load (i := 2) (Lens.id (Vector T_api_Value 4)) (r := x2) ty26 (look_t rfl) (hL _ _ rfl rfl) rfl rfl) rfl, fun L' hL => HO.v (r_load (i := 1) (Lens.id (Vector T_api_Value 4)) (r := x3) ty26 (look_t rfl) (hL _ _ rfl rfl) rfl rfl) rfl, fun L' hL => HO.v (r_build (b := { f_Value := x2, f_Mask := x3 : T_cube_Cube }) rfl bu28 zr28 (.cons le_T_cube_Cube_Value rfl (look_t rfl) rfl (.cons le_T_cube_Cube_Mask rfl (look_t rfl) rfl (.nil)))) rfl, fun L' hL => HO.v (r_call en13 (C_law25_canonical hy2) ⟨look_t rfl, trivial⟩) rfl, ao_alloc zr28, ao_alloc zr28, trivial⟩) fun ps1 => ?_
  refine Sq.store (i := 0) (Lens.id T_cube_Cube) (v := (y1 : T_cube_Cube)) (b' := (y1 : T_cube_Cube)) ty28 (look_t rfl) (look_t rfl) rfl rfl rfl ?_
  refine Sq.store (i := 1) (Lens.id T_cube_Cube) (v := (y2 : T_cube_Cube)) (b' := (y2 : T_cube_Cube)) ty28 (look_t rfl) (look_t rfl) rfl rfl rfl ?_
  refine Sq.nil ?_
  refine To.next ?_
  refine Wp.seq ?_
  refine Wp.seq ?_
  obtain ⟨y3, hy3, h⟩ := bind_some h
  refine Wp.draw mixed 9 [some 31, some 32, some 33, some 34, some 35, some 36, some 37, some 38, some 39] [[], [], [], [], [2, 3], [], [0, 1, 4, 5], [6], []] [.val (VP.of (y1)), .val (VP.of (y2)), .val (VP.of (y1)), .val (VP.of (y2)), .val (VP.of (y3)), .val (VP.of (default : T_cube_Cube)), .val (VP.of ([y1, y2, y3, (default : T_cube_Cube)])), .val (VP.of ([y1, y2, y3, (default : T_cube_Cube)].length : Int)), .val (VP.of (0 : Int))] [false, false, false, false, false, false, false, false, false] (by kernel_rfl) rfl rfl rfl (fun ps2 => ⟨fun L' hL => HO.v (r_load (i := 0) (Lens.id T_cube_Cube) (r := y1) ty28 (look_t rfl) (hL _ _ rfl rfl) rfl rfl) rfl, fun L' hL => HO.v (r_load (i := 1) (Lens.id T_cube_Cube) (r := y2) ty28 (look_t rfl) (hL _ _ rfl rfl) rfl rfl) rfl, fun L' hL => HO.v (r_load (i := 0) (Lens.id T_cube_Cube) (r := y1) ty28 (look_t rfl) (hL _ _ rfl rfl) rfl rfl) rfl, fun L' hL => HO.v (r_load (i := 1) (Lens.id T_cube_Cube) (r := y2) ty28 (look_t rfl) (hL _ _ rfl rfl) rfl rfl) rfl, fun L' hL => HO.v (r_call en14 (C_law25_near hy3) ⟨look_t rfl, look_t rfl, trivial⟩) rfl, fun L' hL => HO.v (r_build (b := (default : T_cube_Cube)) rfl bu28 zr28 (.nil)) rfl, fun L' hL => HO.v (r_bsl (r := [y1, y2, y3, (default : T_cube_Cube)]) Try.underlying31 ty28 zr28 rfl rfl (.cons (by simp) (look_t rfl) (.cons (by simp) (look_t rfl) (.cons (by simp) (look_t rfl) (.cons (by simp) (look_t rfl) (.nil)))))) rfl, fun L' hL => HO.v (r_len Try.underlying31 (look_t rfl)) rfl, fun L' hL => HO.v (r_move (look_int 0)) rfl, trivial⟩) fun ps2 => ?_
  refine Sq.nil ?_
  refine To.next ?_
  refine Wp.block ?_
  obtain ⟨e1, hl, h⟩ := bind_some h
  refine Wp.loopG (σ := Int) (ε := (Int × Bool) ⊕ (Int × Bool × (List T_cube_Cube) × Int × Int × Bool)) (γ := Unit) (δ := Unit) hl (fun s1 g1 => [(0, VP.of (x0)), (1, VP.of (x1)), (2, VP.of (x2)), (3, VP.of (x3)), (4, VP.of (x4)), (5, VP.eq (.pointer (some ⟨p1, 0, none⟩))), (6, VP.eq (.pointer (some ⟨p2, 0, none⟩))), (7, VP.eq (.pointer (some ⟨p3, 0, none⟩))), (8, VP.eq (.pointer (some ⟨p4, 0, none⟩))), (9, VP.eq (.pointer (some ⟨p5, 0, none⟩))), (10, VP.of (false)), (11, VP.eq (.pointer (some ⟨(ps1 8), 0, none⟩))), (12, VP.eq (.pointer (some ⟨(ps1 9), 0, none⟩))), (37, VP.of ([y1, y2, y3, (default : T_cube_Cube)])), (38, VP.of ([y1, y2, y3, (default : T_cube_Cube)].length : Int)), (39, VP.of (s1))]) (fun s1 g1 => [⟨some (ps1 8), .var (y1 : T_cube_Cube)⟩, ⟨some (ps1 9), .var (y2 : T_cube_Cube)⟩, ⟨some p5, .var (x4 : Vector T_api_Value 4)⟩, ⟨some p4, .var (x3 : Vector T_api_Value 4)⟩, ⟨some p3, .var (x2 : Vector T_api_Value 4)⟩, ⟨some p2, .var (x1 : Vector T_api_Value 4)⟩, ⟨some p1, .var (x0 : Vector T_api_Value 4)⟩]) (fun q1 => Sum.elim (fun q1 => Exit.exit 0) (fun q1 => Exit.ret) q1) (fun q1 g1 => Sum.elim (fun q1 => [(0, VP.of (x0)), (1, VP.of (x1)), (2, VP.of (x2)), (3, VP.of (x3)), (4, VP.of (x4)), (5, VP.eq (.pointer (some ⟨p1, 0, none⟩))), (6, VP.eq (.pointer (some ⟨p2, 0, none⟩))), (7, VP.eq (.pointer (some ⟨p3, 0, none⟩))), (8, VP.eq (.pointer (some ⟨p4, 0, none⟩))), (9, VP.eq (.pointer (some ⟨p5, 0, none⟩))), (10, VP.of (false)), (11, VP.eq (.pointer (some ⟨(ps1 8), 0, none⟩))), (12, VP.eq (.pointer (some ⟨(ps1 9), 0, none⟩))), (37, VP.of ([y1, y2, y3, (default : T_cube_Cube)])), (38, VP.of ([y1, y2, y3, (default : T_cube_Cube)].length : Int)), (39, VP.of (q1.1)), (40, VP.of (q1.2))]) (fun q1 => [(0, VP.of (x0)), (1, VP.of (x1)), (2, VP.of (x2)), (3, VP.of (x3)), (4, VP.of (x4)), (5, VP.eq (.pointer (some ⟨p1, 0, none⟩))), (6, VP.eq (.pointer (some ⟨p2, 0, none⟩))), (7, VP.eq (.pointer (some ⟨p3, 0, none⟩))), (8, VP.eq (.pointer (some ⟨p4, 0, none⟩))), (9, VP.eq (.pointer (some ⟨p5, 0, none⟩))), (10, VP.of (false)), (11, VP.eq (.pointer (some ⟨(ps1 8), 0, none⟩))), (12, VP.eq (.pointer (some ⟨(ps1 9), 0, none⟩))), (37, VP.of ([y1, y2, y3, (default : T_cube_Cube)])), (38, VP.of ([y1, y2, y3, (default : T_cube_Cube)].length : Int)), (39, VP.of (q1.1)), (40, VP.of (q1.2.1)), (51, VP.of (q1.2.2.1)), (52, VP.of (q1.2.2.2.1)), (53, VP.of (q1.2.2.2.2.1)), (54, VP.of (q1.2.2.2.2.2))]) q1) (fun q1 g1 => Sum.elim (fun q1 => [⟨some (ps1 8), .var (y1 : T_cube_Cube)⟩, ⟨some (ps1 9), .var (y2 : T_cube_Cube)⟩, ⟨some p5, .var (x4 : Vector T_api_Value 4)⟩, ⟨some p4, .var (x3 : Vector T_api_Value 4)⟩, ⟨some p3, .var (x2 : Vector T_api_Value 4)⟩, ⟨some p2, .var (x1 : Vector T_api_Value 4)⟩, ⟨some p1, .var (x0 : Vector T_api_Value 4)⟩]) (fun q1 => [⟨some (ps1 8), .var (y1 : T_cube_Cube)⟩, ⟨some (ps1 9), .var (y2 : T_cube_Cube)⟩, ⟨some p5, .var (x4 : Vector T_api_Value 4)⟩, ⟨some p4, .var (x3 : Vector T_api_Value 4)⟩, ⟨some p3, .var (x2 : Vector T_api_Value 4)⟩, ⟨some p2, .var (x1 : Vector T_api_Value 4)⟩, ⟨some p1, .var (x0 : Vector T_api_Value 4)⟩]) q1) () rfl (.same rfl (.same rfl (.same rfl (.same rfl (.same rfl (.same rfl (.same rfl (.same rfl (.same rfl (.same rfl (.same rfl (.same rfl (.same rfl (.same rfl (.same rfl (.same rfl .nil)))))))))))))))) (fun s1 r h g1 => ?_) (fun g1 => ?_)
  · clear hl
    refine Wp.seq ?_
    refine Wp.reg ?_
    refine Sq.v (r_lss (look_t rfl) (look_t rfl)) rfl rfl rfl ?_
    refine Sq.nil ?_
    refine To.next ?_
    refine Wp.seq ?_
    refine Wp.cond (look_t rfl) (fun hc => ?_) (fun hc => ?_)
    · replace h := cond_t hc h
      refine Wp.skip ?_
      refine To.next ?_
      refine Wp.seq ?_
      refine Wp.block ?_
      refine Wp.seq ?_
      refine Wp.reg ?_
      obtain ⟨k1, hk1, h⟩ := bind_some h
      refine Sq.v (r_ias (k := k1) Try.underlying31 ty28 (look_t rfl) (look_t rfl) (idx_some hk1)) rfl rfl rfl ?_
      refine Sq.v (r_loadp ty28 (look_t rfl)) rfl rfl rfl ?_
      refine Sq.alloc zr28 rfl fun p6 => ?_
      refine Sq.store (i := 0) (Lens.id T_cube_Cube) (v := (lget [y1, y2, y3, (default : T_cube_Cube)] k1 : T_cube_Cube)) (b' := (lget [y1, y2, y3, (default : T_cube_Cube)] k1 : T_cube_Cube)) ty28 (look_t rfl) (look_t rfl) rfl rfl rfl ?_
      refine Sq.nil ?_
      refine To.next ?_
      refine Wp.seq ?_
      refine Wp.seq ?_
      obtain ⟨y4, hy4, h⟩ := bind_some h
      obtain ⟨y5, hy5, h⟩ := bind_some h
      refine Wp.draw mixed 11 [some 43, some 44, some 45, some 46, some 47, some 48, some 49, some 50, some 51, some 52, some 53] [[], [], [], [], [2, 3], [], [], [5, 6], [0, 1, 4, 7], [8], []] [.val (VP.of (y1)), .val (VP.of (y2)), .val (VP.of (y1)), .val (VP.of (y2)), .val (VP.of (y4)), .val (VP.of (y2)), .val (VP.of (y1)), .val (VP.of (y5)), .val (VP.of ([y1, y2, y4, y5])), .val (VP.of ([y1, y2, y4, y5].length : Int)), .val (VP.of (0 : Int))] [false, false, false, false, false, false, false, false, false, false, false] (by kernel_rfl) rfl rfl rfl (fun ps3 => ⟨fun L' hL => HO.v (r_load (i := 1) (Lens.id T_cube_Cube) (r := y1) ty28 (look_t rfl) (hL _ _ rfl rfl) rfl rfl) rfl, fun L' hL => HO.v (r_load (i := 2) (Lens.id T_cube_Cube) (r := y2) ty28 (look_t rfl) (hL _ _ rfl rfl) rfl rfl) rfl, fun L' hL => HO.v (r_load (i := 1) (Lens.id T_cube_Cube) (r := y1) ty28 (look_t rfl) (hL _ _ rfl rfl) rfl rfl) rfl, fun L' hL => HO.v (r_load (i := 2) (Lens.id T_cube_Cube) (r := y2) ty28 (look_t rfl) (hL _ _ rfl rfl) rfl rfl) rfl, fun L' hL => HO.v (r_call en14 (C_law25_near hy4) ⟨look_t rfl, look_t rfl, trivial⟩) rfl, fun L' hL => HO.v (r_load (i := 2) (Lens.id T_cube_Cube) (r := y2) ty28 (look_t rfl) (hL _ _ rfl rfl) rfl rfl) rfl, fun L' hL => HO.v (r_load (i := 1) (Lens.id T_cube_Cube) (r := y1) ty28 (look_t rfl) (hL _ _ rfl rfl) rfl rfl) rfl, fun L' hL => HO.v (r_call en14 (C_law25_near hy5) ⟨look_t rfl, look_t rfl, trivial⟩) rfl, fun L' hL => HO.v (r_bsl (r := [y1, y2, y4, y5]) Try.underlying31 ty28 zr28 rfl rfl (.cons (by simp) (look_t rfl) (.cons (by simp) (look_t rfl) (.cons (by simp) (look_t rfl) (.cons (by simp) (look_t rfl) (.nil)))))) rfl, fun L' hL => HO.v (r_len Try.underlying31 (look_t rfl)) rfl, fun L' hL => HO.v (r_move (look_int 0)) rfl, trivial⟩) fun ps3 => ?_
      refine Sq.nil ?_
      refine To.next ?_
      refine Wp.block ?_
      obtain ⟨e2, hl, h⟩ := bind_some h
      refine Wp.loopG (σ := Int) (ε := (Int × Bool) ⊕ (Bool × Bool × Int × Bool × Bool)) (γ := Unit) (δ := Unit) hl (fun s2 g2 => [(0, VP.of (x0)), (1, VP.of (x1)), (2, VP.of (x2)), (3, VP.of (x3)), (4, VP.of (x4)), (5, VP.eq (.pointer (some ⟨p1, 0, none⟩))), (6, VP.eq (.pointer (some ⟨p2, 0, none⟩))), (7, VP.eq (.pointer (some ⟨p3, 0, none⟩))), (8, VP.eq (.pointer (some ⟨p4, 0, none⟩))), (9, VP.eq (.pointer (some ⟨p5, 0, none⟩))), (10, VP.of (false)), (11, VP.eq (.pointer (some ⟨(ps1 8), 0, none⟩))), (12, VP.eq (.pointer (some ⟨(ps1 9), 0, none⟩))), (14, VP.eq (.pointer (some ⟨p6, 0, none⟩))), (37, VP.of ([y1, y2, y3, (default : T_cube_Cube)])), (38, VP.of ([y1, y2, y3, (default : T_cube_Cube)].length : Int)), (39, VP.of (s1)), (40, VP.of (decide (s1 < ([y1, y2, y3, (default : T_cube_Cube)].length : Int)))), (51, VP.of ([y1, y2, y4, y5])), (52, VP.of ([y1, y2, y4, y5].length : Int)), (53, VP.of (s2))]) (fun s2 g2 => [⟨some p6, .var (lget [y1, y2, y3, (default : T_cube_Cube)] k1 : T_cube_Cube)⟩, ⟨some (ps1 8), .var (y1 : T_cube_Cube)⟩, ⟨some (ps1 9), .var (y2 : T_cube_Cube)⟩, ⟨some p5, .var (x4 : Vector T_api_Value 4)⟩, ⟨some p4, .var (x3 : Vector T_api_Value 4)⟩, ⟨some p3, .var (x2 : Vector T_api_Value 4)⟩, ⟨some p2, .var (x1 : Vector T_api_Value 4)⟩, ⟨some p1, .var (x0 : Vector T_api_Value 4)⟩]) (fun q2 => Sum.elim (fun q2 => Exit.exit 2) (fun q2 => Exit.ret) q2) (fun q2 g2 => Sum.elim (fun q2 => [(0, VP.of (x0)), (1, VP.of (x1)), (2, VP.of (x2)), (3, VP.of (x3)), (4, VP.of (x4)), (5, VP.eq (.pointer (some ⟨p1, 0, none⟩))), (6, VP.eq (.pointer (some ⟨p2, 0, none⟩))), (7, VP.eq (.pointer (some ⟨p3, 0, none⟩))), (8, VP.eq (.pointer (some ⟨p4, 0, none⟩))), (9, VP.eq (.pointer (some ⟨p5, 0, none⟩))), (10, VP.of (false)), (11, VP.eq (.pointer (some ⟨(ps1 8), 0, none⟩))), (12, VP.eq (.pointer (some ⟨(ps1 9), 0, none⟩))), (14, VP.eq (.pointer (some ⟨p6, 0, none⟩))), (37, VP.of ([y1, y2, y3, (default : T_cube_Cube)])), (38, VP.of ([y1, y2, y3, (default : T_cube_Cube)].length : Int)), (39, VP.of (s1)), (40, VP.of (decide (s1 < ([y1, y2, y3, (default : T_cube_Cube)].length : Int)))), (51, VP.of ([y1, y2, y4, y5])), (52, VP.of ([y1, y2, y4, y5].length : Int)), (53, VP.of (q2.1)), (54, VP.of (q2.2))]) (fun q2 => [(0, VP.of (x0)), (1, VP.of (x1)), (2, VP.of (x2)), (3, VP.of (x3)), (4, VP.of (x4)), (5, VP.eq (.pointer (some ⟨p1, 0, none⟩))), (6, VP.eq (.pointer (some ⟨p2, 0, none⟩))), (7, VP.eq (.pointer (some ⟨p3, 0, none⟩))), (8, VP.eq (.pointer (some ⟨p4, 0, none⟩))), (9, VP.eq (.pointer (some ⟨p5, 0, none⟩))), (10, VP.of (false)), (11, VP.eq (.pointer (some ⟨(ps1 8), 0, none⟩))), (12, VP.eq (.pointer (some ⟨(ps1 9), 0, none⟩))), (14, VP.eq (.pointer (some ⟨p6, 0, none⟩))), (18, VP.of (q2.1)), (20, VP.of (q2.2.1)), (37, VP.of ([y1, y2, y3, (default : T_cube_Cube)])), (38, VP.of ([y1, y2, y3, (default : T_cube_Cube)].length : Int)), (39, VP.of (s1)), (40, VP.of (decide (s1 < ([y1, y2, y3, (default : T_cube_Cube)].length : Int)))), (51, VP.of ([y1, y2, y4, y5])), (52, VP.of ([y1, y2, y4, y5].length : Int)), (53, VP.of (q2.2.2.1)), (54, VP.of (q2.2.2.2.1)), (108, VP.of (q2.2.2.2.2))]) q2) (fun q2 g2 => Sum.elim (fun q2 => [⟨some p6, .var (lget [y1, y2, y3, (default : T_cube_Cube)] k1 : T_cube_Cube)⟩, ⟨some (ps1 8), .var (y1 : T_cube_Cube)⟩, ⟨some (ps1 9), .var (y2 : T_cube_Cube)⟩, ⟨some p5, .var (x4 : Vector T_api_Value 4)⟩, ⟨some p4, .var (x3 : Vector T_api_Value 4)⟩, ⟨some p3, .var (x2 : Vector T_api_Value 4)⟩, ⟨some p2, .var (x1 : Vector T_api_Value 4)⟩, ⟨some p1, .var (x0 : Vector T_api_Value 4)⟩]) (fun q2 => [⟨some p6, .var (lget [y1, y2, y3, (default : T_cube_Cube)] k1 : T_cube_Cube)⟩, ⟨some (ps1 8), .var (y1 : T_cube_Cube)⟩, ⟨some (ps1 9), .var (y2 : T_cube_Cube)⟩, ⟨some p5, .var (x4 : Vector T_api_Value 4)⟩, ⟨some p4, .var (x3 : Vector T_api_Value 4)⟩, ⟨some p3, .var (x2 : Vector T_api_Value 4)⟩, ⟨some p2, .var (x1 : Vector T_api_Value 4)⟩, ⟨some p1, .var (x0 : Vector T_api_Value 4)⟩]) q2) () rfl (.same rfl (.same rfl (.same rfl (.same rfl (.same rfl (.same rfl (.same rfl (.same rfl (.same rfl (.same rfl (.same rfl (.same rfl (.same rfl (.same rfl (.same rfl (.same rfl (.same rfl (.same rfl (.same rfl (.same rfl (.same rfl .nil))))))))))))))))))))) (fun s2 r h g2 => ?_) (fun g2 => ?_)
      · clear hl
        refine Wp.seq ?_
        refine Wp.reg ?_
        refine Sq.v (r_lss (look_t rfl) (look_t rfl)) rfl rfl rfl ?_
        refine Sq.nil ?_
        refine To.next ?_
        refine Wp.seq ?_
        refine Wp.cond (look_t rfl) (fun hc => ?_) (fun hc => ?_)
        · replace h := cond_t hc h
          refine Wp.skip ?_
          refine To.next ?_
          refine Wp.seq ?_
          refine Wp.block ?_
          refine Wp.seq ?_
          refine Wp.reg ?_
          obtain ⟨k2, hk2, h⟩ := bind_some h
          refine Sq.v (r_ias (k := k2) Try.underlying31 ty28 (look_t rfl) (look_t rfl) (idx_some hk2)) rfl rfl rfl ?_
          refine Sq.v (r_loadp ty28 (look_t rfl)) rfl rfl rfl ?_
          refine Sq.alloc zr28 rfl fun p7 => ?_
          refine Sq.store (i := 0) (Lens.id T_cube_Cube) (v := (lget [y1, y2, y4, y5] k2 : T_cube_Cube)) (b' := (lget [y1, y2, y4, y5] k2 : T_cube_Cube)) ty28 (look_t rfl) (look_t rfl) rfl rfl rfl ?_
          refine Sq.nil ?_
          refine To.next ?_
          refine Wp.seq ?_
          refine Wp.reg ?_
          refine Sq.v (r_load (i := 1) (Lens.id T_cube_Cube) (r := (lget [y1, y2, y3, (default : T_cube_Cube)] k1)) ty28 (look_t rfl) rfl rfl rfl) rfl rfl rfl ?_
          refine Sq.v (r_load (i := 0) (Lens.id T_cube_Cube) (r := (lget [y1, y2, y4, y5] k2)) ty28 (look_t rfl) rfl rfl rfl) rfl rfl rfl ?_
          obtain ⟨y6, hy6, h⟩ := bind_some h
          refine Sq.v (r_call en18 (C_cube_Meet hy6) ⟨look_t rfl, look_t rfl, trivial⟩) rfl rfl rfl ?_
          refine Sq.v (r_move (look_t rfl)) rfl rfl rfl ?_
          refine Sq.v (r_ext (look_t rfl) rfl) rfl rfl rfl ?_
          refine Sq.v (r_ext (look_t rfl) rfl) rfl rfl rfl ?_
          refine Sq.alloc zr28 rfl fun p8 => ?_
          refine Sq.store (i := 0) (Lens.id T_cube_Cube) (v := (y6.1 : T_cube_Cube)) (b' := (y6.1 : T_cube_Cube)) ty28 (look_t rfl) (look_t rfl) rfl rfl rfl ?_
          refine Sq.v (r_asg (look_t rfl)) rfl rfl rfl ?_
          refine Sq.nil ?_
          refine To.next ?_
          refine Wp.seq ?_
          obtain ⟨y7, hy7, h⟩ := bind_some h
          obtain ⟨y8, hy8, h⟩ := bind_some h
          obtain ⟨y9, hy9, h⟩ := bind_some h
          refine Wp.draw mixed 10 [some 64, some 65, some 66, some 67, some 68, some 63, some 69, some 70, some 19, none] [[], [0], [], [2], [1, 3], [4], [5], [5], [], [6, 8]] [.val (VP.of (lget [y1, y2, y3, (default : T_cube_Cube)] k1)), .val (VP.of (y7)), .val (VP.of (lget [y1, y2, y4, y5] k2)), .val (VP.of (y8)), .val (VP.tup [VP.of (y9.1), VP.of (y9.2)]), .val (VP.tup [VP.of (y9.1), VP.of (y9.2)]), .val (VP.of (y9.1)), .val (VP.of (y9.2)), .new (.var (default : Vector (BitVec 8) 512)), .stn 8 (.var (y9.1 : Vector (BitVec 8) 512))] [false, false, false, false, false, false, false, false, false, true] (by kernel_rfl) rfl rfl rfl (fun ps4 => ⟨fun L' hL => HO.v (r_load (i := 2) (Lens.id T_cube_Cube) (r := (lget [y1, y2, y3, (default : T_cube_Cube)] k1)) ty28 (look_t rfl) (hL _ _ rfl rfl) rfl rfl) rfl, fun L' hL => HO.v (r_call en17 (C_law25_bits hy7) ⟨look_t rfl, trivial⟩) rfl, fun L' hL => HO.v (r_load (i := 1) (Lens.id T_cube_Cube) (r := (lget [y1, y2, y4, y5] k2)) ty28 (look_t rfl) (hL _ _ rfl rfl) rfl rfl) rfl, fun L' hL => HO.v (r_call en17 (C_law25_bits hy8) ⟨look_t rfl, trivial⟩) rfl, fun L' hL => HO.v (r_call en26 (C_ref25_Meet hy9) ⟨look_t rfl, look_t rfl, trivial⟩) rfl, fun L' hL => HO.v (r_move (look_t rfl)) rfl, fun L' hL => HO.v (r_ext (look_t rfl) rfl) rfl, fun L' hL => HO.v (r_ext (look_t rfl) rfl) rfl, ao_alloc zr36, ⟨rfl, _, rfl, fun L' q hq => so_var (i := q) (Lens.id (Vector (BitVec 8) 512)) (v := (y9.1 : Vector (BitVec 8) 512)) (b' := (y9.1 : Vector (BitVec 8) 512)) ty36 (look_t rfl) (look_t rfl) hq rfl rfl⟩, trivial⟩) fun ps4 => ?_
          refine Sq.v (r_asg (look_t rfl)) rfl rfl rfl ?_
          refine Sq.nil ?_
          refine To.next ?_
          refine Wp.seq ?_
          refine Wp.seq ?_
          obtain ⟨y10, hy10, h⟩ := bind_some h
          obtain ⟨y11, hy11, h⟩ := bind_some h
          obtain ⟨z1, hz1, h⟩ := bind_some h
          obtain ⟨y12, hy12, h⟩ := bind_some h
          obtain ⟨y13, hy13, h⟩ := bind_some h
          obtain ⟨y14, hy14, h⟩ := bind_some h
          obtain ⟨y15, hy15, h⟩ := bind_some h
          obtain ⟨z2, hz2, h⟩ := bind_some h
          refine Wp.draw mixed 38 ((some 71) :: (some 72) :: (some 73) :: (some 74) :: (some 75) :: (some 76) :: (some 77) :: (some 78) :: (some 79) :: (some 80) :: (some 81) :: (some 82) :: (some 83) :: (some 84) :: (some 85) :: (some 86) :: (some 87) :: (some 88) :: (some 89) :: (some 90) :: (some 91) :: (some 92) :: (some 93) :: (some 94) :: (some 95) :: (some 96) :: (some 97) :: (some 98) :: (some 99) :: (some 100) :: (some 101) :: (some 102) :: (some 103) :: (some 104) :: (some 105) :: (some 106) :: (some 107) :: (some 108) :: []) ([] :: [] :: [0, 1] :: [2] :: [3] :: [3, 4] :: [5] :: [5, 6] :: [5] :: [5, 7, 8] :: [5, 9] :: [10] :: [10] :: [10, 12] :: [10, 11, 13] :: [5, 10, 14] :: [3, 5, 15] :: [3, 16] :: [17] :: [18] :: [18, 19] :: [18, 20] :: [21] :: [21] :: [21, 22, 23] :: [18, 21, 24] :: [18, 25] :: [26] :: [27] :: [27] :: [27, 28, 29] :: [27] :: [27, 31] :: [27] :: [27, 33] :: [27, 32, 34] :: [27, 30, 35] :: [27, 36] :: []) (.val (VP.of (y6.2)) :: .val (VP.of (y9.2)) :: .val (VP.of (y6.2 != y9.2)) :: .val (VP.of (y6.2 != y9.2)) :: .val (VP.cond ((y6.2 != y9.2) = false) (VP.of (y6.2))) :: .val (VP.cond ((y6.2 != y9.2) = false) (VP.of (y6.2))) :: .val (VP.cond (((y6.2 != y9.2) = false) ∧ y6.2 = true) (VP.of (y6.1))) :: .val (VP.cond (((y6.2 != y9.2) = false) ∧ y6.2 = true) (VP.of (y10))) :: .val (VP.cond (((y6.2 != y9.2) = false) ∧ y6.2 = true) (VP.of (y9.1))) :: .val (VP.cond (((y6.2 != y9.2) = false) ∧ y6.2 = true) (VP.of (!decide (y10 = y9.1)))) :: .val (VP.cond (((y6.2 != y9.2) = false) ∧ y6.2 = true) (VP.of (!decide (y10 = y9.1)))) :: .val (VP.cond ((((y6.2 != y9.2) = false) ∧ y6.2 = true) ∧ (!decide (y10 = y9.1)) = false) (VP.of (y6.1))) :: .val (VP.cond ((((y6.2 != y9.2) = false) ∧ y6.2 = true) ∧ (!decide (y10 = y9.1)) = false) (VP.of (y6.1))) :: .val (VP.cond ((((y6.2 != y9.2) = false) ∧ y6.2 = true) ∧ (!decide (y10 = y9.1)) = false) (VP.of (y11))) :: .val (VP.cond ((((y6.2 != y9.2) = false) ∧ y6.2 = true) ∧ (!decide (y10 = y9.1)) = false) (VP.of (!decide (y6.1 = y11)))) :: .val (VP.cond (((y6.2 != y9.2) = false) ∧ y6.2 = true) (VP.of ((!decide (y10 = y9.1)) || (!decide (y6.1 = y11))))) :: .val (VP.cond ((y6.2 != y9.2) = false) (VP.of (y6.2 && ((!decide (y10 = y9.1)) || (!decide (y6.1 = y11)))))) :: .val (VP.of (z1)) :: .val (VP.of (z1)) :: .val (VP.cond (z1 = false) (VP.of (y6.2))) :: .val (VP.cond (z1 = false) (VP.of (!y6.2))) :: .val (VP.cond (z1 = false) (VP.of (!y6.2))) :: .val (VP.cond ((z1 = false) ∧ (!y6.2) = true) (VP.of (y6.1))) :: .val (VP.cond ((z1 = false) ∧ (!y6.2) = true) (VP.of (default : T_cube_Cube))) :: .val (VP.cond ((z1 = false) ∧ (!y6.2) = true) (VP.of (!decide (y6.1 = (default : T_cube_Cube))))) :: .val (VP.cond (z1 = false) (VP.of ((!y6.2) && (!decide (y6.1 = (default : T_cube_Cube)))))) :: .val (VP.of (z1 || ((!y6.2) && (!decide (y6.1 = (default : T_cube_Cube)))))) :: .val (VP.of (z1 || ((!y6.2) && (!decide (y6.1 = (default : T_cube_Cube)))))) :: .val (VP.cond ((z1 || ((!y6.2) && (!decide (y6.1 = (default : T_cube_Cube))))) = false) (VP.of (lget [y1, y2, y3, (default : T_cube_Cube)] k1))) :: .val (VP.cond ((z1 || ((!y6.2) && (!decide (y6.1 = (default : T_cube_Cube))))) = false) (VP.of (lget [y1, y2, y4, y5] k2))) :: .val (VP.cond ((z1 || ((!y6.2) && (!decide (y6.1 = (default : T_cube_Cube))))) = false) (VP.of (y12))) :: .val (VP.cond ((z1 || ((!y6.2) && (!decide (y6.1 = (default : T_cube_Cube))))) = false) (VP.of (lget [y1, y2, y3, (default : T_cube_Cube)] k1))) :: .val (VP.cond ((z1 || ((!y6.2) && (!decide (y6.1 = (default : T_cube_Cube))))) = false) (VP.of (y13))) :: .val (VP.cond ((z1 || ((!y6.2) && (!decide (y6.1 = (default : T_cube_Cube))))) = false) (VP.of (lget [y1, y2, y4, y5] k2))) :: .val (VP.cond ((z1 || ((!y6.2) && (!decide (y6.1 = (default : T_cube_Cube))))) = false) (VP.of (y14))) :: .val (VP.cond ((z1 || ((!y6.2) && (!decide (y6.1 = (default : T_cube_Cube))))) = false) (VP.of (y15))) :: .val (VP.cond ((z1 || ((!y6.2) && (!decide (y6.1 = (default : T_cube_Cube))))) = false) (VP.of (y12 != y15))) :: .val (VP.of (z2)) :: []) (false :: false :: false :: false :: false :: false :: false :: false :: false :: false :: false :: false :: false :: false :: false :: false :: false :: false :: false :: false :: false :: false :: false :: false :: false :: false :: false :: false :: false :: false :: false :: false :: false :: false :: false :: false :: false :: false :: []) (by kernel_rfl) rfl rfl rfl (fun ps5 => ⟨fun L' hL => HO.v (r_move (look_t rfl)) rfl, fun L' hL => HO.v (r_move (look_t rfl)) rfl, fun L' hL => HO.v (r_bne Try.underlying4 (look_t rfl) (look_t rfl)) rfl, fun L' hL => HO.v (r_move (look_t rfl)) rfl, fun L' hL => HO.g (fun hb => r_move (look_t rfl)) rfl rfl rfl, fun L' hL => HO.g (fun hb => r_move (look_tc rfl hb)) rfl rfl rfl, fun L' hL => HO.gg (fun hb => r_load (i := 1) (Lens.id T_cube_Cube) (r := y6.1) ty28 (look_t rfl) (hL _ _ rfl rfl) rfl rfl) rfl rfl rfl, fun L' hL => HO.gg (fun hb => r_call en17 (C_law25_bits (condM_some hy10 (decide_eq_true hb))) ⟨look_tc rfl hb, trivial⟩) rfl rfl rfl, fun L' hL => HO.gg (fun hb => r_load (i := 0) (Lens.id (Vector (BitVec 8) 512)) (r := y9.1) ty36 (look_t rfl) (hL _ _ rfl rfl) rfl rfl) rfl rfl rfl, fun L' hL => HO.gg (fun hb => r_neA eqv36 rfl eqg36 rfl (look_tc rfl hb) (look_tc rfl hb)) rfl rfl rfl, fun L' hL => HO.gg (fun hb => r_move (look_tc rfl hb)) rfl rfl rfl, fun L' hL => HO.gg (fun hb => r_load (i := 1) (Lens.id T_cube_Cube) (r := y6.1) ty28 (look_t rfl) (hL _ _ rfl rfl) rfl rfl) rfl rfl rfl, fun L' hL => HO.gg (fun hb => r_load (i := 1) (Lens.id T_cube_Cube) (r := y6.1) ty28 (look_t rfl) (hL _ _ rfl rfl) rfl rfl) rfl rfl rfl, fun L' hL => HO.gg (fun hb => r_call en13 (C_law25_canonical (condM_some hy11 (decide_eq_true hb))) ⟨look_tc rfl hb, trivial⟩) rfl rfl rfl, fun L' hL => HO.gg (fun hb => r_neA eqv28 rfl eqg28 rfl (look_tc rfl hb) (look_tc rfl hb)) rfl rfl rfl, fun L' hL => HO.gg (fun hb => r_or (look_tc rfl hb) (look_t rfl) (fun h => ⟨hb, h⟩)) rfl rfl rfl, fun L' hL => HO.g (fun hb => r_and (look_tc rfl hb) (look_t rfl) (fun h => ⟨hb, h⟩)) rfl rfl rfl, fun L' hL => HO.v ((r_or (look_t rfl) (look_t rfl) (fun h => h)).as (some_in hz1)) rfl, fun L' hL => HO.v (r_move (look_t rfl)) rfl, fun L' hL => HO.g (fun hb => r_move (look_t rfl)) rfl rfl rfl, fun L' hL => HO.g (fun hb => r_not (look_tc rfl hb)) rfl rfl rfl, fun L' hL => HO.g (fun hb => r_move (look_tc rfl hb)) rfl rfl rfl, fun L' hL => HO.gg (fun hb => r_load (i := 1) (Lens.id T_cube_Cube) (r := y6.1) ty28 (look_t rfl) (hL _ _ rfl rfl) rfl rfl) rfl rfl rfl, fun L' hL => HO.gg (fun hb => r_build (b := (default : T_cube_Cube)) rfl bu28 zr28 (.nil)) rfl rfl rfl, fun L' hL => HO.gg (fun hb => r_neA eqv28 rfl eqg28 rfl (look_tc rfl hb) (look_tc rfl hb)) rfl rfl rfl, fun L' hL => HO.g (fun hb => r_and (look_tc rfl hb) (look_t rfl) (fun h => ⟨hb, h⟩)) rfl rfl rfl, fun L' hL => HO.v (r_or (look_t rfl) (look_t rfl) (fun h => h)) rfl, fun L' hL => HO.v (r_move (look_t rfl)) rfl, fun L' hL => HO.g (fun hb => r_load (i := 3) (Lens.id T_cube_Cube) (r := (lget [y1, y2, y3, (default : T_cube_Cube)] k1)) ty28 (look_t rfl) (hL _ _ rfl rfl) rfl rfl) rfl rfl rfl, fun L' hL => HO.g (fun hb => r_load (i := 2) (Lens.id T_cube_Cube) (r := (lget [y1, y2, y4, y5] k2)) ty28 (look_t rfl) (hL _ _ rfl rfl) rfl rfl) rfl rfl rfl, fun L' hL => HO.g (fun hb => r_call en27 (C_cube_Within (condM_some hy12 hb)) ⟨look_tc rfl hb, look_tc rfl hb, trivial⟩) rfl rfl rfl, fun L' hL => HO.g (fun hb => r_load (i := 3) (Lens.id T_cube_Cube) (r := (lget [y1, y2, y3, (default : T_cube_Cube)] k1)) ty28 (look_t rfl) (hL _ _ rfl rfl) rfl rfl) rfl rfl rfl, fun L' hL => HO.g (fun hb => r_call en17 (C_law25_bits (condM_some hy13 hb)) ⟨look_tc rfl hb, trivial⟩) rfl rfl rfl, fun L' hL => HO.g (fun hb => r_load (i := 2) (Lens.id T_cube_Cube) (r := (lget [y1, y2, y4, y5] k2)) ty28 (look_t rfl) (hL _ _ rfl rfl) rfl rfl) rfl rfl rfl, fun L' hL => HO.g (fun hb => r_call en17 (C_law25_bits (condM_some hy14 hb)) ⟨look_tc rfl hb, trivial⟩) rfl rfl rfl, fun L' hL => HO.g (fun hb => r_call en28 (C_ref25_Within (condM_some hy15 hb)) ⟨look_tc rfl hb, look_tc rfl hb, trivial⟩) rfl rfl rfl, fun L' hL => HO.g (fun hb => r_bne Try.underlying4 (look_tc rfl hb) (look_tc rfl hb)) rfl rfl rfl, fun L' hL => HO.v ((r_or (look_t rfl) (look_t rfl) (fun h => h)).as (some_in hz2)) rfl, trivial⟩) fun ps5 => ?_
          refine Sq.nil ?_
          refine To.next ?_
          refine Wp.cond (look_t rfl) (fun hc => ?_) (fun hc => ?_)
          · replace h := cond_t hc h
            refine Wp.seq ?_
            refine Wp.reg ?_
            refine Sq.v (r_asg (look_bool false)) rfl rfl rfl ?_
            refine Sq.nil ?_
            refine To.next ?_
            refine Wp.ret ?_
            refine To.ret ?_
            refine To.bret ?_
            refine To.ret ?_
            replace h := some_in h
            subst h
            exact To.leaveG () 3 rfl (by simp) rfl (.same rfl (.same rfl (.same rfl (.same rfl (.same rfl (.same rfl (.same rfl (.same rfl (.same rfl (.same rfl (.same rfl (.same rfl (.same rfl (.same rfl (.same rfl (.same rfl (.same rfl (.same rfl (.same rfl (.same rfl (.same rfl (.same rfl (.same rfl (.same rfl (.same rfl .nil)))))))))))))))))))))))))
          · replace h := cond_f hc h
            refine Wp.skip ?_
            refine To.next ?_
            refine Wp.seq ?_
            refine Wp.reg ?_
            refine Sq.v (r_load (i := 6) (Lens.id (Vector T_api_Value 4)) (r := x4) ty26 (look_t rfl) rfl rfl rfl) rfl rfl rfl ?_
            refine Sq.alloc zr26 rfl fun p9 => ?_
            refine Sq.store (i := 0) (Lens.id (Vector T_api_Value 4)) (v := (x4 : Vector T_api_Value 4)) (b' := (x4 : Vector T_api_Value 4)) ty26 (look_t rfl) (look_t rfl) rfl rfl rfl ?_
            refine Sq.nil ?_
            refine To.next ?_
            refine Wp.seq ?_
            refine Wp.seq ?_
            refine Wp.reg ?_
            refine Sq.v (r_move (look_int 0)) rfl rfl rfl ?_
            refine Sq.nil ?_
            refine To.next ?_
            refine Wp.block ?_
            obtain ⟨e3, hl, h⟩ := bind_some h
            refine Wp.loopG (σ := Int × (Vector T_api_Value 4)) (ε := (Int × Bool × (Vector T_api_Value 4))) (γ := Unit) (δ := Unit) hl (fun s3 g3 => [(0, VP.of (x0)), (1, VP.of (x1)), (2, VP.of (x2)), (3, VP.of (x3)), (4, VP.of (x4)), (5, VP.eq (.pointer (some ⟨p1, 0, none⟩))), (6, VP.eq (.pointer (some ⟨p2, 0, none⟩))), (7, VP.eq (.pointer (some ⟨p3, 0, none⟩))), (8, VP.eq (.pointer (some ⟨p4, 0, none⟩))), (9, VP.eq (.pointer (some ⟨p5, 0, none⟩))), (10, VP.of (false)), (11, VP.eq (.pointer (some ⟨(ps1 8), 0, none⟩))), (12, VP.eq (.pointer (some ⟨(ps1 9), 0, none⟩))), (14, VP.eq (.pointer (some ⟨p6, 0, none⟩))), (16, VP.eq (.pointer (some ⟨p7, 0, none⟩))), (17, VP.eq (.pointer (some ⟨p8, 0, none⟩))), (18, VP.of (y6.2)), (19, VP.eq (.pointer (some ⟨(ps4 8), 0, none⟩))), (20, VP.of (y9.2)), (21, VP.eq (.pointer (some ⟨p9, 0, none⟩))), (37, VP.of ([y1, y2, y3, (default : T_cube_Cube)])), (38, VP.of ([y1, y2, y3, (default : T_cube_Cube)].length : Int)), (39, VP.of (s1)), (40, VP.of (decide (s1 < ([y1, y2, y3, (default : T_cube_Cube)].length : Int)))), (51, VP.of ([y1, y2, y4, y5])), (52, VP.of ([y1, y2, y4, y5].length : Int)), (53, VP.of (s2)), (54, VP.of (decide (s2 < ([y1, y2, y4, y5].length : Int)))), (108, VP.of (z2)), (110, VP.of (s3.1))]) (fun s3 g3 => [⟨some p9, .var (s3.2 : Vector T_api_Value 4)⟩, ⟨some (ps4 8), .var (y9.1 : Vector (BitVec 8) 512)⟩, ⟨some p8, .var (y6.1 : T_cube_Cube)⟩, ⟨some p7, .var (lget [y1, y2, y4, y5] k2 : T_cube_Cube)⟩, ⟨some p6, .var (lget [y1, y2, y3, (default : T_cube_Cube)] k1 : T_cube_Cube)⟩, ⟨some (ps1 8), .var (y1 : T_cube_Cube)⟩, ⟨some (ps1 9), .var (y2 : T_cube_Cube)⟩, ⟨some p5, .var (x4 : Vector T_api_Value 4)⟩, ⟨some p4, .var (x3 : Vector T_api_Value 4)⟩, ⟨some p3, .var (x2 : Vector T_api_Value 4)⟩, ⟨some p2, .var (x1 : Vector T_api_Value 4)⟩, ⟨some p1, .var (x0 : Vector T_api_Value 4)⟩]) (fun q3 => Exit.exit 4) (fun q3 g3 => [(0, VP.of (x0)), (1, VP.of (x1)), (2, VP.of (x2)), (3, VP.of (x3)), (4, VP.of (x4)), (5, VP.eq (.pointer (some ⟨p1, 0, none⟩))), (6, VP.eq (.pointer (some ⟨p2, 0, none⟩))), (7, VP.eq (.pointer (some ⟨p3, 0, none⟩))), (8, VP.eq (.pointer (some ⟨p4, 0, none⟩))), (9, VP.eq (.pointer (some ⟨p5, 0, none⟩))), (10, VP.of (false)), (11, VP.eq (.pointer (some ⟨(ps1 8), 0, none⟩))), (12, VP.eq (.pointer (some ⟨(ps1 9), 0, none⟩))), (14, VP.eq (.pointer (some ⟨p6, 0, none⟩))), (16, VP.eq (.pointer (some ⟨p7, 0, none⟩))), (17, VP.eq (.pointer (some ⟨p8, 0, none⟩))), (18, VP.of (y6.2)), (19, VP.eq (.pointer (some ⟨(ps4 8), 0, none⟩))), (20, VP.of (y9.2)), (21, VP.eq (.pointer (some ⟨p9, 0, none⟩))), (37, VP.of ([y1, y2, y3, (default : T_cube_Cube)])), (38, VP.of ([y1, y2, y3, (default : T_cube_Cube)].length : Int)), (39, VP.of (s1)), (40, VP.of (decide (s1 < ([y1, y2, y3, (default : T_cube_Cube)].length : Int)))), (51, VP.of ([y1, y2, y4, y5])), (52, VP.of ([y1, y2, y4, y5].length : Int)), (53, VP.of (s2)), (54, VP.of (decide (s2 < ([y1, y2, y4, y5].length : Int)))), (108, VP.of (z2)), (110, VP.of (q3.1)), (111, VP.of (q3.2.1))]) (fun q3 g3 => [⟨some p9, .var (q3.2.2 : Vector T_api_Value 4)⟩, ⟨some (ps4 8), .var (y9.1 : Vector (BitVec 8) 512)⟩, ⟨some p8, .var (y6.1 : T_cube_Cube)⟩, ⟨some p7, .var (lget [y1, y2, y4, y5] k2 : T_cube_Cube)⟩, ⟨some p6, .var (lget [y1, y2, y3, (default : T_cube_Cube)] k1 : T_cube_Cube)⟩, ⟨some (ps1 8), .var (y1 : T_cube_Cube)⟩, ⟨some (ps1 9), .var (y2 : T_cube_Cube)⟩, ⟨some p5, .var (x4 : Vector T_api_Value 4)⟩, ⟨some p4, .var (x3 : Vector T_api_Value 4)⟩, ⟨some p3, .var (x2 : Vector T_api_Value 4)⟩, ⟨some p2, .var (x1 : Vector T_api_Value 4)⟩, ⟨some p1, .var (x0 : Vector T_api_Value 4)⟩]) () rfl (.same rfl (.same rfl (.same rfl (.same rfl (.same rfl (.same rfl (.same rfl (.same rfl (.same rfl (.same rfl (.same rfl (.same rfl (.same rfl (.same rfl (.same rfl (.same rfl (.same rfl (.same rfl (.same rfl (.same rfl (.same rfl (.same rfl (.same rfl (.same rfl (.same rfl (.same rfl (.same rfl (.same rfl (.same rfl (.same rfl .nil)))))))))))))))))))))))))))))) (fun s3 r h g3 => ?_) (fun g3 => ?_)
            · clear hl
              refine Wp.seq ?_
              refine Wp.reg ?_
              refine Sq.v (r_lss (look_t rfl) (look_int 4)) rfl rfl rfl ?_
              refine Sq.nil ?_
              refine To.next ?_
              refine Wp.seq ?_
              refine Wp.cond (look_t rfl) (fun hc => ?_) (fun hc => ?_)
              · replace h := cond_t hc h
                refine Wp.skip ?_
                refine To.next ?_
                refine Wp.seq ?_
                refine Wp.block ?_
                refine Wp.seq ?_
                refine Wp.reg ?_
                refine Sq.v (r_move (look_t rfl)) rfl rfl rfl ?_
                refine Sq.v (r_asg (look_t rfl)) rfl rfl rfl ?_
                refine Sq.nil ?_
                refine To.next ?_
                obtain ⟨k3, hk3, h⟩ := bind_some h
                obtain ⟨k4, hk4, h⟩ := bind_some h
                obtain ⟨k5, hk5, h⟩ := bind_some h
                obtain ⟨y16, hy16, h⟩ := bind_some h
                obtain ⟨y17, hy17, h⟩ := bind_some h
                obtain ⟨y18, hy18, h⟩ := bind_some h
                obtain ⟨k6, hk6, h⟩ := bind_some h
                refine Wp.draw mixed 16 ((some 113) :: (some 114) :: (some 115) :: (some 116) :: (some 117) :: (some 118) :: (some 119) :: (some 120) :: (some 121) :: (some 122) :: (some 123) :: (some 124) :: (some 125) :: (some 126) :: (some 127) :: (some 128) :: []) ([] :: [] :: [] :: [1, 2] :: [3] :: [] :: [5] :: [6] :: [] :: [] :: [8, 9] :: [10] :: [11] :: [7, 12] :: [4, 13] :: [0] :: []) (.val (VP.of (s3.1)) :: .val (VP.of (s3.1)) :: .val (VP.eq (.pointer (some ⟨p6, 0 + 0, none⟩))) :: .val (VP.eq (.pointer (some ⟨p6, 0 + 0 + k3 * 2, none⟩))) :: .val (VP.of (vget ((lget [y1, y2, y3, (default : T_cube_Cube)] k1).f_Value) k3)) :: .val (VP.of (s3.1)) :: .val (VP.eq (.pointer (some ⟨p9, 0 + k4 * 2, none⟩))) :: .val (VP.of (vget s3.2 k4)) :: .val (VP.of (s3.1)) :: .val (VP.eq (.pointer (some ⟨p6, 0 + 8, none⟩))) :: .val (VP.eq (.pointer (some ⟨p6, 0 + 8 + k5 * 2, none⟩))) :: .val (VP.of (vget ((lget [y1, y2, y3, (default : T_cube_Cube)] k1).f_Mask) k5)) :: .val (VP.of (y16)) :: .val (VP.of (y17)) :: .val (VP.of (y18)) :: .val (VP.eq (.pointer (some ⟨p9, 0 + k6 * 2, none⟩))) :: []) (false :: false :: false :: false :: false :: false :: false :: false :: false :: false :: false :: false :: false :: false :: false :: false :: []) (by kernel_rfl) rfl rfl rfl (fun ps6 => ⟨fun L' hL => HO.v (r_move (look_t rfl)) rfl, fun L' hL => HO.v (r_move (look_t rfl)) rfl, fun L' hL => HO.v (r_fa fd28_0 (look_t rfl)) rfl, fun L' hL => HO.v (r_ia (k := k3) ar26 (look_t rfl) (look_t rfl) (idx_some hk3)) rfl, fun L' hL => HO.v (r_load (i := 4) (((Lens.id T_cube_Cube).comp le_T_cube_Cube_Value).comp (Lens.idx (α := T_api_Value) 4 k3 (idx_some hk3).1)) (r := vget ((lget [y1, y2, y3, (default : T_cube_Cube)] k1).f_Value) k3) ty24 (look_t rfl) (hL _ _ rfl rfl) rfl rfl) rfl, fun L' hL => HO.v (r_move (look_t rfl)) rfl, fun L' hL => HO.v (r_ia (k := k4) ar26 (look_t rfl) (look_t rfl) (idx_some hk4)) rfl, fun L' hL => HO.v (r_load (i := 0) ((Lens.id (Vector T_api_Value 4)).comp (Lens.idx (α := T_api_Value) 4 k4 (idx_some hk4).1)) (r := vget s3.2 k4) ty24 (look_t rfl) (hL _ _ rfl rfl) rfl rfl) rfl, fun L' hL => HO.v (r_move (look_t rfl)) rfl, fun L' hL => HO.v (r_fa fd28_1 (look_t rfl)) rfl, fun L' hL => HO.v (r_ia (k := k5) ar26 (look_t rfl) (look_t rfl) (idx_some hk5)) rfl, fun L' hL => HO.v (r_load (i := 4) (((Lens.id T_cube_Cube).comp le_T_cube_Cube_Mask).comp (Lens.idx (α := T_api_Value) 4 k5 (idx_some hk5).1)) (r := vget ((lget [y1, y2, y3, (default : T_cube_Cube)] k1).f_Mask) k5) ty24 (look_t rfl) (hL _ _ rfl rfl) rfl rfl) rfl, fun L' hL => HO.v (r_call en24 (C_ref01_Not hy16) ⟨look_t rfl, look_int 128, trivial⟩) rfl, fun L' hL => HO.v (r_call en23 (C_ref01_And hy17) ⟨look_t rfl, look_t rfl, trivial⟩) rfl, fun L' hL => HO.v (r_call en22 (C_ref01_Or hy18) ⟨look_t rfl, look_t rfl, trivial⟩) rfl, fun L' hL => HO.v (r_ia (k := k6) ar26 (look_t rfl) (look_t rfl) (idx_some hk6)) rfl, trivial⟩) fun ps6 => ?_
                refine Sq.store (i := 0) ((Lens.id (Vector T_api_Value 4)).comp (Lens.idx (α := T_api_Value) 4 k6 (idx_some hk6).1)) (v := (y18 : T_api_Value)) (b' := (vset s3.2 k6 y18 : Vector T_api_Value 4)) ty24 (look_t rfl) (look_t rfl) rfl rfl rfl ?_
                refine Sq.nil ?_
                refine To.bnorm ?_
                refine To.next ?_
                refine Wp.reg ?_
                refine Sq.v (r_add (look_t rfl) (look_int 1)) rfl rfl rfl ?_
                refine Sq.v (r_move (look_t rfl)) rfl rfl rfl ?_
                refine Sq.nil ?_
                replace h := some_in h
                subst h
                exact To.roundG () 0 rfl (.same rfl (.same rfl (.same rfl (.same rfl (.same rfl (.same rfl (.same rfl (.same rfl (.same rfl (.same rfl (.same rfl (.same rfl (.same rfl (.same rfl (.same rfl (.same rfl (.same rfl (.same rfl (.same rfl (.same rfl (.same rfl (.same rfl (.same rfl (.same rfl (.same rfl (.same rfl (.same rfl (.same rfl (.same rfl (.same rfl .nil))))))))))))))))))))))))))))))
              · replace h := cond_f hc h
                refine Wp.exit ?_
                refine To.exit ?_
                replace h := some_in h
                subst h
                exact To.leaveG () 0 rfl (by simp) rfl (.same rfl (.same rfl (.same rfl (.same rfl (.same rfl (.same rfl (.same rfl (.same rfl (.same rfl (.same rfl (.same rfl (.same rfl (.same rfl (.same rfl (.same rfl (.same rfl (.same rfl (.same rfl (.same rfl (.same rfl (.same rfl (.same rfl (.same rfl (.same rfl (.same rfl (.same rfl (.same rfl (.same rfl (.same rfl (.same rfl (.same rfl .nil)))))))))))))))))))))))))))))))
            · clear hl
              refine To.bexit ?_
              refine To.next ?_
              refine Wp.seq ?_
              obtain ⟨y19, hy19, h⟩ := bind_some h
              obtain ⟨y20, hy20, h⟩ := bind_some h
              obtain ⟨y21, hy21, h⟩ := bind_some h
              obtain ⟨y22, hy22, h⟩ := bind_some h
              obtain ⟨y23, hy23, h⟩ := bind_some h
              obtain ⟨y24, hy24, h⟩ := bind_some h
              obtain ⟨y25, hy25, h⟩ := bind_some h
              refine Wp.draw mixed 24 ((some 130) :: (some 131) :: (some 132) :: (some 133) :: (some 134) :: (some 135) :: (some 136) :: (some 137) :: (some 138) :: (some 139) :: (some 140) :: (some 141) :: (some 142) :: (some 143) :: (some 144) :: (some 145) :: (some 146) :: (some 147) :: (some 148) :: (some 149) :: (some 150) :: (some 151) :: (some 152) :: (some 153) :: []) ([] :: [] :: [0, 1] :: [] :: [3] :: [] :: [4, 5] :: [2, 6] :: [7] :: [8] :: [8] :: [8, 9, 10] :: [8, 11] :: [8, 12] :: [13] :: [14] :: [14] :: [14, 15, 16] :: [14] :: [14, 18] :: [14] :: [14, 19, 20] :: [14, 17, 21] :: [14, 22] :: []) (.val (VP.of (lget [y1, y2, y4, y5] k2)) :: .val (VP.of (e3.2.2)) :: .val (VP.of (y19)) :: .val (VP.of (lget [y1, y2, y4, y5] k2)) :: .val (VP.of (y20)) :: .val (VP.of (e3.2.2)) :: .val (VP.of (y21)) :: .val (VP.of (y19 != y21)) :: .val (VP.of (y19 != y21)) :: .val (VP.cond ((y19 != y21) = false) (VP.of (lget [y1, y2, y3, (default : T_cube_Cube)] k1))) :: .val (VP.cond ((y19 != y21) = false) (VP.of (e3.2.2))) :: .val (VP.cond ((y19 != y21) = false) (VP.of (y22))) :: .val (VP.cond ((y19 != y21) = false) (VP.of (!y22))) :: .val (VP.of ((y19 != y21) || (!y22))) :: .val (VP.of ((y19 != y21) || (!y22))) :: .val (VP.cond (((y19 != y21) || (!y22)) = false) (VP.of (lget [y1, y2, y3, (default : T_cube_Cube)] k1))) :: .val (VP.cond (((y19 != y21) || (!y22)) = false) (VP.of (x4))) :: .val (VP.cond (((y19 != y21) || (!y22)) = false) (VP.of (y23))) :: .val (VP.cond (((y19 != y21) || (!y22)) = false) (VP.of (lget [y1, y2, y3, (default : T_cube_Cube)] k1))) :: .val (VP.cond (((y19 != y21) || (!y22)) = false) (VP.of (y24))) :: .val (VP.cond (((y19 != y21) || (!y22)) = false) (VP.of (x4))) :: .val (VP.cond (((y19 != y21) || (!y22)) = false) (VP.of (y25))) :: .val (VP.cond (((y19 != y21) || (!y22)) = false) (VP.of (y23 != y25))) :: .val (VP.of (((y19 != y21) || (!y22)) || (y23 != y25))) :: []) (false :: false :: false :: false :: false :: false :: false :: false :: false :: false :: false :: false :: false :: false :: false :: false :: false :: false :: false :: false :: false :: false :: false :: false :: []) (by kernel_rfl) rfl rfl rfl (fun ps7 => ⟨fun L' hL => HO.v (r_load (i := 3) (Lens.id T_cube_Cube) (r := (lget [y1, y2, y4, y5] k2)) ty28 (look_t rfl) (hL _ _ rfl rfl) rfl rfl) rfl, fun L' hL => HO.v (r_load (i := 0) (Lens.id (Vector T_api_Value 4)) (r := e3.2.2) ty26 (look_t rfl) (hL _ _ rfl rfl) rfl rfl) rfl, fun L' hL => HO.v (r_call en25 (C_cube_Contains hy19) ⟨look_t rfl, look_t rfl, trivial⟩) rfl, fun L' hL => HO.v (r_load (i := 3) (Lens.id T_cube_Cube) (r := (lget [y1, y2, y4, y5] k2)) ty28 (look_t rfl) (hL _ _ rfl rfl) rfl rfl) rfl, fun L' hL => HO.v (r_call en17 (C_law25_bits hy20) ⟨look_t rfl, trivial⟩) rfl, fun L' hL => HO.v (r_load (i := 0) (Lens.id (Vector T_api_Value 4)) (r := e3.2.2) ty26 (look_t rfl) (hL _ _ rfl rfl) rfl rfl) rfl, fun L' hL => HO.v (r_call en29 (C_ref25_Contains hy21) ⟨look_t rfl, look_t rfl, trivial⟩) rfl, fun L' hL => HO.v (r_bne Try.underlying4 (look_t rfl) (look_t rfl)) rfl, fun L' hL => HO.v (r_move (look_t rfl)) rfl, fun L' hL => HO.g (fun hb => r_load (i := 4) (Lens.id T_cube_Cube) (r := (lget [y1, y2, y3, (default : T_cube_Cube)] k1)) ty28 (look_t rfl) (hL _ _ rfl rfl) rfl rfl) rfl rfl rfl, fun L' hL => HO.g (fun hb => r_load (i := 0) (Lens.id (Vector T_api_Value 4)) (r := e3.2.2) ty26 (look_t rfl) (hL _ _ rfl rfl) rfl rfl) rfl rfl rfl, fun L' hL => HO.g (fun hb => r_call en25 (C_cube_Contains (condM_some hy22 hb)) ⟨look_tc rfl hb, look_tc rfl hb, trivial⟩) rfl rfl rfl, fun L' hL => HO.g (fun hb => r_not (look_tc rfl hb)) rfl rfl rfl, fun L' hL => HO.v (r_or (look_t rfl) (look_t rfl) (fun h => h)) rfl, fun L' hL => HO.v (r_move (look_t rfl)) rfl, fun L' hL => HO.g (fun hb => r_load (i := 4) (Lens.id T_cube_Cube) (r := (lget [y1, y2, y3, (default : T_cube_Cube)] k1)) ty28 (look_t rfl) (hL _ _ rfl rfl) rfl rfl) rfl rfl rfl, fun L' hL => HO.g (fun hb => r_load (i := 7) (Lens.id (Vector T_api_Value 4)) (r := x4) ty26 (look_t rfl) (hL _ _ rfl rfl) rfl rfl) rfl rfl rfl, fun L' hL => HO.g (fun hb => r_call en25 (C_cube_Contains (condM_some hy23 hb)) ⟨look_tc rfl hb, look_tc rfl hb, trivial⟩) rfl rfl rfl, fun L' hL => HO.g (fun hb => r_load (i := 4) (Lens.id T_cube_Cube) (r := (lget [y1, y2, y3, (default : T_cube_Cube)] k1)) ty28 (look_t rfl) (hL _ _ rfl rfl) rfl rfl) rfl rfl rfl, fun L' hL => HO.g (fun hb => r_call en17 (C_law25_bits (condM_some hy24 hb)) ⟨look_tc rfl hb, trivial⟩) rfl rfl rfl, fun L' hL => HO.g (fun hb => r_load (i := 7) (Lens.id (Vector T_api_Value 4)) (r := x4) ty26 (look_t rfl) (hL _ _ rfl rfl) rfl rfl) rfl rfl rfl, fun L' hL => HO.g (fun hb => r_call en29 (C_ref25_Contains (condM_some hy25 hb)) ⟨look_tc rfl hb, look_tc rfl hb, trivial⟩) rfl rfl rfl, fun L' hL => HO.g (fun hb => r_bne Try.underlying4 (look_tc rfl hb) (look_tc rfl hb)) rfl rfl rfl, fun L' hL => HO.v (r_or (look_t rfl) (look_t rfl) (fun h => h)) rfl, trivial⟩) fun ps7 => ?_
              refine Sq.nil ?_
              refine To.next ?_
              refine Wp.cond (look_t rfl) (fun hc => ?_) (fun hc => ?_)
              · replace h := cond_t hc h
                refine Wp.seq ?_
                refine Wp.reg ?_
                refine Sq.v (r_asg (look_bool false)) rfl rfl rfl ?_
                refine Sq.nil ?_
                refine To.next ?_
                refine Wp.ret ?_
                refine To.bret ?_
                refine To.ret ?_
                replace h := some_in h
                subst h
                exact To.leaveG () 4 rfl (by simp) rfl (.same rfl (.same rfl (.same rfl (.same rfl (.same rfl (.same rfl (.same rfl (.same rfl (.same rfl (.same rfl (.same rfl (.same rfl (.same rfl (.same rfl (.same rfl (.same rfl (.same rfl (.same rfl (.same rfl (.same rfl (.same rfl (.same rfl (.same rfl (.same rfl (.same rfl .nil)))))))))))))))))))))))))
              · replace h := cond_f hc h
                refine Wp.skip ?_
                refine To.bnorm ?_
                refine To.next ?_
                refine Wp.reg ?_
                refine Sq.v (r_add (look_t rfl) (look_int 1)) rfl rfl rfl ?_
                refine Sq.v (r_move (look_t rfl)) rfl rfl rfl ?_
                refine Sq.nil ?_
                replace h := some_in h
                subst h
                exact To.roundG () 4 rfl (.same rfl (.same rfl (.same rfl (.same rfl (.same rfl (.same rfl (.same rfl (.same rfl (.same rfl (.same rfl (.same rfl (.same rfl (.same rfl (.same rfl (.same rfl (.same rfl (.same rfl (.same rfl (.same rfl (.same rfl (.same rfl .nil)))))))))))))))))))))
        · replace h := cond_f hc h
          refine Wp.exit ?_
          refine To.exit ?_
          replace h := some_in h
          subst h
          exact To.leaveG () 0 rfl (by simp) rfl (.same rfl (.same rfl (.same rfl (.same rfl (.same rfl (.same rfl (.same rfl (.same rfl (.same rfl (.same rfl (.same rfl (.same rfl (.same rfl (.same rfl (.same rfl (.same rfl (.same rfl (.same rfl (.same rfl (.same rfl (.same rfl (.same rfl .nil))))))))))))))))))))))
      · clear hl
        rcases e2 with e2 | e2
        · simp only [Sum.elim_inl] at h
          refine To.bexit ?_
          refine To.next ?_
          refine Wp.seq ?_
          obtain ⟨y26, hy26, h⟩ := bind_some h
          obtain ⟨y27, hy27, h⟩ := bind_some h
          obtain ⟨y28, hy28, h⟩ := bind_some h
          refine Wp.draw mixed 6 [some 155, some 156, some 157, some 158, some 159, some 160] [[], [0], [], [2], [3], [1, 4]] [.val (VP.of (lget [y1, y2, y3, (default : T_cube_Cube)] k1)), .val (VP.of (y26)), .val (VP.of (lget [y1, y2, y3, (default : T_cube_Cube)] k1)), .val (VP.of (y27)), .val (VP.of (y28)), .val (VP.of (y26 != y28))] [false, false, false, false, false, false] (by kernel_rfl) rfl rfl rfl (fun ps8 => ⟨fun L' hL => HO.v (r_load (i := 0) (Lens.id T_cube_Cube) (r := (lget [y1, y2, y3, (default : T_cube_Cube)] k1)) ty28 (look_t rfl) (hL _ _ rfl rfl) rfl rfl) rfl, fun L' hL => HO.v (r_call en30 (C_cube_Free hy26) ⟨look_t rfl, trivial⟩) rfl, fun L' hL => HO.v (r_load (i := 0) (Lens.id T_cube_Cube) (r := (lget [y1, y2, y3, (default : T_cube_Cube)] k1)) ty28 (look_t rfl) (hL _ _ rfl rfl) rfl rfl) rfl, fun L' hL => HO.v (r_call en17 (C_law25_bits hy27) ⟨look_t rfl, trivial⟩) rfl, fun L' hL => HO.v (r_call en31 (C_ref25_Free hy28) ⟨look_t rfl, trivial⟩) rfl, fun L' hL => HO.v (r_neq (look_t rfl) (look_t rfl)) rfl, trivial⟩) fun ps8 => ?_
          refine Sq.nil ?_
          refine To.next ?_
          refine Wp.cond (look_t rfl) (fun hc => ?_) (fun hc => ?_)
          · replace h := cond_t hc h
            refine Wp.seq ?_
            refine Wp.reg ?_
            refine Sq.v (r_asg (look_bool false)) rfl rfl rfl ?_
            refine Sq.nil ?_
            refine To.next ?_
            refine Wp.ret ?_
            refine To.bret ?_
            refine To.ret ?_
            replace h := some_in h
            subst h
            exact To.leaveG () 1 rfl (by simp) rfl (.same rfl (.same rfl (.same rfl (.same rfl (.same rfl (.same rfl (.same rfl (.same rfl (.same rfl (.same rfl (.same rfl (.same rfl (.same rfl (.same rfl (.same rfl (.same rfl (.same rfl (.same rfl (.same rfl (.same rfl (.same rfl .nil)))))))))))))))))))))
          · replace h := cond_f hc h
            refine Wp.skip ?_
            refine To.bnorm ?_
            refine To.next ?_
            refine Wp.reg ?_
            refine Sq.v (r_add (look_t rfl) (look_int 1)) rfl rfl rfl ?_
            refine Sq.v (r_move (look_t rfl)) rfl rfl rfl ?_
            refine Sq.nil ?_
            replace h := some_in h
            subst h
            exact To.roundG () 1 rfl (.same rfl (.same rfl (.same rfl (.same rfl (.same rfl (.same rfl (.same rfl (.same rfl (.same rfl (.same rfl (.same rfl (.same rfl (.same rfl (.same rfl (.same rfl (.same rfl .nil))))))))))))))))
        · simp only [Sum.elim_inr] at h
          refine To.bret ?_
          refine To.ret ?_
          refine To.bret ?_
          refine To.ret ?_
          replace h := some_in h
          subst h
          exact To.leaveG () 1 rfl (by simp) rfl (.same rfl (.same rfl (.same rfl (.same rfl (.same rfl (.same rfl (.same rfl (.same rfl (.same rfl (.same rfl (.same rfl (.same rfl (.same rfl (.same rfl (.same rfl (.same rfl (.same rfl (.same rfl (.same rfl (.same rfl (.same rfl .nil)))))))))))))))))))))
    · replace h := cond_f hc h
      refine Wp.exit ?_
      refine To.exit ?_
      replace h := some_in h
      subst h
      exact To.leaveG () 0 rfl (by simp) rfl (.same rfl (.same rfl (.same rfl (.same rfl (.same rfl (.same rfl (.same rfl (.same rfl (.same rfl (.same rfl (.same rfl (.same rfl (.same rfl (.same rfl (.same rfl (.same rfl (.same rfl .nil)))))))))))))))))
  · clear hl
    rcases e1 with e1 | e1
    · simp only [Sum.elim_inl] at h
      refine To.bexit ?_
      refine To.next ?_
      refine Wp.seq ?_
      refine Wp.reg ?_
      obtain ⟨y29, hy29, h⟩ := bind_some h
      refine Sq.v (r_call en19 (C_law25_begun hy29) trivial) rfl rfl rfl ?_
      refine Sq.v (r_asg (look_t rfl)) rfl rfl rfl ?_
      refine Sq.nil ?_
      refine To.next ?_
      refine Wp.ret ?_
      replace h := some_in h
      subst h
      exact To.end1 rfl (rv_t rfl)
    · simp only [Sum.elim_inr] at h
      refine To.bret ?_
      refine To.ret ?_
      replace h := some_in h
      subst h
      exact To.end1 rfl (rv_t rfl)
end Go.Proofs.Ytabodolbdalimaa
