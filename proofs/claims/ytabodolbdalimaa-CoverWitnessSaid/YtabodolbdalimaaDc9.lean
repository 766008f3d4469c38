/-
  Printed by the decompiler (dec.py) out of the seat's translation. Each function meets its functional program. Conditions: none.
-/
import Derived.Test.YtabodolbdalimaaDc2
import Derived.Test.YtabodolbdalimaaDc3
import Derived.Test.YtabodolbdalimaaDc5
import Derived.Test.YtabodolbdalimaaDc6
import Derived.Test.YtabodolbdalimaaDc7
import Derived.Test.YtabodolbdalimaaDc8
namespace Go.Proofs.Ytabodolbdalimaa
open Go Gv
set_option linter.unusedVariables false
set_option linter.unusedSimpArgs false
set_option maxRecDepth 100000
set_option maxHeartbeats 2000000 in
theorem C_cover_Witness {x0 : T_cube_Cube} {x1 : List T_cube_Cube}  {r : (Vector T_api_Value 4) × Bool × Int} (h : L_cover_Witness x0 x1 = some r) : Meets Try.prog 39 [VP.of (x0), VP.of (x1)] (VP.tup [VP.of (r.1), VP.of (r.2.1), VP.of (r.2.2)]) := by
  unfold L_cover_Witness at h
  refine Meets.of Try.func39 rfl Try.ntmps39 rfl fun W A => ?_
  refine Wp.seq ?_
  refine Wp.reg ?_
  refine Sq.box (z := (x0 : T_cube_Cube)) (look_t rfl) rfl fun p1 => ?_
  refine Sq.alloc zr26 rfl fun p2 => ?_
  refine Sq.v (r_asg (look_bool false)) rfl rfl rfl ?_
  refine Sq.v (r_asg (look_int 0)) rfl rfl rfl ?_
  refine Sq.nil ?_
  refine To.next ?_
  refine Wp.seq ?_
  refine Wp.reg ?_
  refine Sq.v (r_load (i := 1) (Lens.id T_cube_Cube) (r := x0) ty28 (look_t rfl) rfl rfl rfl) rfl rfl rfl ?_
  refine Sq.v (r_move (look_t rfl)) rfl rfl rfl ?_
  obtain ⟨y1, hy1, h⟩ := bind_some h
  refine Sq.v (r_call en67 (C_cover_near hy1) ⟨look_t rfl, look_t rfl, trivial⟩) rfl rfl rfl ?_
  refine Sq.v (r_asg (look_t rfl)) rfl rfl rfl ?_
  refine Sq.nil ?_
  refine To.next ?_
  refine Wp.seq ?_
  refine Wp.seq ?_
  refine Wp.reg ?_
  refine Sq.v (r_move (look_t rfl)) rfl rfl rfl ?_
  refine Sq.v (r_len Try.underlying31 (look_t rfl)) rfl rfl rfl ?_
  refine Sq.v (r_gtr (look_t rfl) (look_int 16)) rfl rfl rfl ?_
  refine Sq.nil ?_
  refine To.next ?_
  refine Wp.cond (look_t rfl) (fun hc => ?_) (fun hc => ?_)
  · replace h := cond_t hc h
    refine Wp.seq ?_
    refine Wp.reg ?_
    refine Sq.v (r_buildA (b := (default : Vector T_api_Value 4)) (sz := 2) rfl Try.underlying26 (by kernel_rfl) zr26 (.nil)) rfl rfl rfl ?_
    refine Sq.store (i := 0) (Lens.id (Vector T_api_Value 4)) (v := ((default : Vector T_api_Value 4) : Vector T_api_Value 4)) (b' := ((default : Vector T_api_Value 4) : Vector T_api_Value 4)) ty26 (look_t rfl) (look_t rfl) rfl rfl rfl ?_
    refine Sq.v (r_asg (look_bool false)) rfl rfl rfl ?_
    refine Sq.v (r_asg (look_int 26)) rfl rfl rfl ?_
    refine Sq.nil ?_
    refine To.next ?_
    refine Wp.ret ?_
    refine To.ret ?_
    replace h := some_in h
    subst h
    exact To.end3 rfl (rv_c (i := 0) ty26 rfl rfl) (rv_t rfl) (rv_t rfl)
  · replace h := cond_f hc h
    refine Wp.skip ?_
    refine To.next ?_
    refine Wp.seq ?_
    refine Wp.seq ?_
    refine Wp.reg ?_
    refine Sq.v (r_load (i := 1) (Lens.id T_cube_Cube) (r := x0) ty28 (look_t rfl) rfl rfl rfl) rfl rfl rfl ?_
    refine Sq.v (r_move (look_t rfl)) rfl rfl rfl ?_
    obtain ⟨y2, hy2, h⟩ := bind_some h
    refine Sq.v (r_call en68 (C_cover_covered hy2) ⟨look_t rfl, look_t rfl, trivial⟩) rfl rfl rfl ?_
    refine Sq.nil ?_
    refine To.next ?_
    refine Wp.cond (look_t rfl) (fun hc => ?_) (fun hc => ?_)
    · replace h := cond_t hc h
      refine Wp.seq ?_
      refine Wp.reg ?_
      refine Sq.v (r_buildA (b := (default : Vector T_api_Value 4)) (sz := 2) rfl Try.underlying26 (by kernel_rfl) zr26 (.nil)) rfl rfl rfl ?_
      refine Sq.store (i := 0) (Lens.id (Vector T_api_Value 4)) (v := ((default : Vector T_api_Value 4) : Vector T_api_Value 4)) (b' := ((default : Vector T_api_Value 4) : Vector T_api_Value 4)) ty26 (look_t rfl) (look_t rfl) rfl rfl rfl ?_
      refine Sq.v (r_asg (look_bool false)) rfl rfl rfl ?_
      refine Sq.v (r_asg (look_int 0)) rfl rfl rfl ?_
      refine Sq.nil ?_
      refine To.next ?_
      refine Wp.ret ?_
      refine To.ret ?_
      replace h := some_in h
      subst h
      exact To.end3 rfl (rv_c (i := 0) ty26 rfl rfl) (rv_t rfl) (rv_t rfl)
    · replace h := cond_f hc h
      refine Wp.skip ?_
      refine To.next ?_
      refine Wp.seq ?_
      refine Wp.seq ?_
      refine Wp.reg ?_
      refine Sq.v (r_move (look_int 0)) rfl rfl rfl ?_
      refine Sq.nil ?_
      refine To.next ?_
      refine Wp.block ?_
      obtain ⟨e1, hl, h⟩ := bind_some h
      refine Wp.loopG (σ := (List T_cube_Cube) × Int × T_cube_Cube) (ε := ((List T_cube_Cube) × Int × Bool × T_cube_Cube)) (γ := Unit) (δ := Unit) hl (fun s1 g1 => [(0, VP.of (x0)), (1, VP.of (x1)), (2, VP.eq (.pointer (some ⟨p1, 0, none⟩))), (4, VP.eq (.pointer (some ⟨p2, 0, none⟩))), (5, VP.of (false)), (6, VP.of (0 : Int)), (7, VP.of (s1.1)), (16, VP.of (decide ((y1.length : Int) > 16))), (20, VP.of (y2)), (22, VP.of (s1.2.1))]) (fun s1 g1 => [⟨some p2, .var ((default : Vector T_api_Value 4) : Vector T_api_Value 4)⟩, ⟨some p1, .var (s1.2.2 : T_cube_Cube)⟩]) (fun q1 => Exit.exit 0) (fun q1 g1 => [(0, VP.of (x0)), (1, VP.of (x1)), (2, VP.eq (.pointer (some ⟨p1, 0, none⟩))), (4, VP.eq (.pointer (some ⟨p2, 0, none⟩))), (5, VP.of (false)), (6, VP.of (0 : Int)), (7, VP.of (q1.1)), (16, VP.of (decide ((y1.length : Int) > 16))), (20, VP.of (y2)), (22, VP.of (q1.2.1)), (23, VP.of (q1.2.2.1))]) (fun q1 g1 => [⟨some p2, .var ((default : Vector T_api_Value 4) : Vector T_api_Value 4)⟩, ⟨some p1, .var (q1.2.2.2 : T_cube_Cube)⟩]) () rfl (.same rfl (.same rfl (.same rfl (.same rfl (.same rfl (.same rfl (.same rfl (.same rfl (.same rfl (.same rfl .nil)))))))))) (fun s1 r h g1 => ?_) (fun g1 => ?_)
      · clear hl
        refine Wp.seq ?_
        refine Wp.reg ?_
        refine Sq.v (r_lss (look_t rfl) (look_int 512)) rfl rfl rfl ?_
        refine Sq.nil ?_
        refine To.next ?_
        refine Wp.seq ?_
        refine Wp.cond (look_t rfl) (fun hc => ?_) (fun hc => ?_)
        · replace h := cond_t hc h
          refine Wp.skip ?_
          refine To.next ?_
          refine Wp.seq ?_
          refine Wp.block ?_
          refine Wp.seq ?_
          refine Wp.reg ?_
          refine Sq.v (r_move (look_t rfl)) rfl rfl rfl ?_
          refine Sq.v (r_asg (look_t rfl)) rfl rfl rfl ?_
          refine Sq.nil ?_
          refine To.next ?_
          refine Wp.seq ?_
          refine Wp.reg ?_
          refine Sq.v (r_load (i := 1) (Lens.id T_cube_Cube) (r := s1.2.2) ty28 (look_t rfl) rfl rfl rfl) rfl rfl rfl ?_
          refine Sq.v (r_move (look_t rfl)) rfl rfl rfl ?_
          obtain ⟨y3, hy3, h⟩ := bind_some h
          refine Sq.v (r_call en21 (C_cube_Fix hy3) ⟨look_t rfl, look_t rfl, look_bool false, trivial⟩) rfl rfl rfl ?_
          refine Sq.alloc zr28 rfl fun p3 => ?_
          refine Sq.store (i := 0) (Lens.id T_cube_Cube) (v := (y3 : T_cube_Cube)) (b' := (y3 : T_cube_Cube)) ty28 (look_t rfl) (look_t rfl) rfl rfl rfl ?_
          refine Sq.nil ?_
          refine To.next ?_
          refine Wp.seq ?_
          refine Wp.seq ?_
          refine Wp.reg ?_
          refine Sq.v (r_load (i := 0) (Lens.id T_cube_Cube) (r := y3) ty28 (look_t rfl) rfl rfl rfl) rfl rfl rfl ?_
          refine Sq.v (r_load (i := 2) (Lens.id T_cube_Cube) (r := s1.2.2) ty28 (look_t rfl) rfl rfl rfl) rfl rfl rfl ?_
          refine Sq.v (r_eqA eqv28 rfl eqg28 rfl (look_t rfl) (look_t rfl)) rfl rfl rfl ?_
          refine Sq.nil ?_
          refine To.next ?_
          refine Wp.cond (look_t rfl) (fun hc => ?_) (fun hc => ?_)
          · replace h := cond_t hc h
            refine Wp.exit ?_
            refine To.exit ?_
            refine To.bexit ?_
            refine To.next ?_
            refine Wp.reg ?_
            refine Sq.v (r_add (look_t rfl) (look_int 1)) rfl rfl rfl ?_
            refine Sq.v (r_move (look_t rfl)) rfl rfl rfl ?_
            refine Sq.nil ?_
            replace h := some_in h
            subst h
            exact To.roundG () 1 rfl (.same rfl (.same rfl (.same rfl (.same rfl (.same rfl (.same rfl (.same rfl (.same rfl (.same rfl (.same rfl .nil))))))))))
          · replace h := cond_f hc h
            refine Wp.skip ?_
            refine To.next ?_
            refine Wp.seq ?_
            refine Wp.seq ?_
            refine Wp.reg ?_
            refine Sq.v (r_load (i := 0) (Lens.id T_cube_Cube) (r := y3) ty28 (look_t rfl) rfl rfl rfl) rfl rfl rfl ?_
            refine Sq.v (r_move (look_t rfl)) rfl rfl rfl ?_
            obtain ⟨y4, hy4, h⟩ := bind_some h
            refine Sq.v (r_call en67 (C_cover_near hy4) ⟨look_t rfl, look_t rfl, trivial⟩) rfl rfl rfl ?_
            refine Sq.v (r_asg (look_t rfl)) rfl rfl rfl ?_
            refine Sq.nil ?_
            refine To.next ?_
            refine Wp.seq ?_
            refine Wp.reg ?_
            refine Sq.v (r_load (i := 0) (Lens.id T_cube_Cube) (r := y3) ty28 (look_t rfl) rfl rfl rfl) rfl rfl rfl ?_
            refine Sq.v (r_move (look_t rfl)) rfl rfl rfl ?_
            obtain ⟨y5, hy5, h⟩ := bind_some h
            refine Sq.v (r_call en68 (C_cover_covered hy5) ⟨look_t rfl, look_t rfl, trivial⟩) rfl rfl rfl ?_
            refine Sq.v (r_not (look_t rfl)) rfl rfl rfl ?_
            refine Sq.nil ?_
            refine To.next ?_
            refine Wp.cond (look_t rfl) (fun hc => ?_) (fun hc => ?_)
            · replace h := cond_t hc h
              refine Wp.seq ?_
              refine Wp.reg ?_
              refine Sq.v (r_load (i := 0) (Lens.id T_cube_Cube) (r := y3) ty28 (look_t rfl) rfl rfl rfl) rfl rfl rfl ?_
              refine Sq.v (r_move (look_t rfl)) rfl rfl rfl ?_
              refine Sq.store (i := 2) (Lens.id T_cube_Cube) (v := (y3 : T_cube_Cube)) (b' := (y3 : T_cube_Cube)) ty28 (look_t rfl) (look_t rfl) rfl rfl rfl ?_
              refine Sq.v (r_asg (look_t rfl)) rfl rfl rfl ?_
              refine Sq.nil ?_
              refine To.next ?_
              refine Wp.exit ?_
              refine To.exit ?_
              refine To.bexit ?_
              refine To.next ?_
              refine Wp.reg ?_
              refine Sq.v (r_add (look_t rfl) (look_int 1)) rfl rfl rfl ?_
              refine Sq.v (r_move (look_t rfl)) rfl rfl rfl ?_
              refine Sq.nil ?_
              replace h := some_in h
              subst h
              exact To.roundG () 1 rfl (.same rfl (.same rfl (.same rfl (.same rfl (.same rfl (.same rfl (.same rfl (.same rfl (.same rfl (.same rfl .nil))))))))))
            · replace h := cond_f hc h
              refine Wp.skip ?_
              refine To.next ?_
              refine Wp.seq ?_
              refine Wp.reg ?_
              refine Sq.v (r_load (i := 2) (Lens.id T_cube_Cube) (r := s1.2.2) ty28 (look_t rfl) rfl rfl rfl) rfl rfl rfl ?_
              refine Sq.v (r_move (look_t rfl)) rfl rfl rfl ?_
              obtain ⟨y6, hy6, h⟩ := bind_some h
              refine Sq.v (r_call en21 (C_cube_Fix hy6) ⟨look_t rfl, look_t rfl, look_bool true, trivial⟩) rfl rfl rfl ?_
              refine Sq.store (i := 2) (Lens.id T_cube_Cube) (v := (y6 : T_cube_Cube)) (b' := (y6 : T_cube_Cube)) ty28 (look_t rfl) (look_t rfl) rfl rfl rfl ?_
              refine Sq.nil ?_
              refine To.next ?_
              refine Wp.reg ?_
              refine Sq.v (r_load (i := 2) (Lens.id T_cube_Cube) (r := y6) ty28 (look_t rfl) rfl rfl rfl) rfl rfl rfl ?_
              refine Sq.v (r_move (look_t rfl)) rfl rfl rfl ?_
              obtain ⟨y7, hy7, h⟩ := bind_some h
              refine Sq.v (r_call en67 (C_cover_near hy7) ⟨look_t rfl, look_t rfl, trivial⟩) rfl rfl rfl ?_
              refine Sq.v (r_asg (look_t rfl)) rfl rfl rfl ?_
              refine Sq.nil ?_
              refine To.bnorm ?_
              refine To.next ?_
              refine Wp.reg ?_
              refine Sq.v (r_add (look_t rfl) (look_int 1)) rfl rfl rfl ?_
              refine Sq.v (r_move (look_t rfl)) rfl rfl rfl ?_
              refine Sq.nil ?_
              replace h := some_in h
              subst h
              exact To.roundG () 1 rfl (.same rfl (.same rfl (.same rfl (.same rfl (.same rfl (.same rfl (.same rfl (.same rfl (.same rfl (.same rfl .nil))))))))))
        · replace h := cond_f hc h
          refine Wp.exit ?_
          refine To.exit ?_
          replace h := some_in h
          subst h
          exact To.leaveG () 0 rfl (by simp) rfl (.same rfl (.same rfl (.same rfl (.same rfl (.same rfl (.same rfl (.same rfl (.same rfl (.same rfl (.same rfl (.same rfl .nil)))))))))))
      · clear hl
        refine To.bexit ?_
        refine To.next ?_
        refine Wp.seq ?_
        refine Wp.reg ?_
        refine Sq.v (r_fa fd28_0 (look_t rfl)) rfl rfl rfl ?_
        refine Sq.v (r_load (i := 1) ((Lens.id T_cube_Cube).comp le_T_cube_Cube_Value) (r := e1.2.2.2.f_Value) ty26 (look_t rfl) rfl rfl rfl) rfl rfl rfl ?_
        refine Sq.store (i := 0) (Lens.id (Vector T_api_Value 4)) (v := (e1.2.2.2.f_Value : Vector T_api_Value 4)) (b' := (e1.2.2.2.f_Value : Vector T_api_Value 4)) ty26 (look_t rfl) (look_t rfl) rfl rfl rfl ?_
        refine Sq.v (r_asg (look_bool true)) rfl rfl rfl ?_
        refine Sq.v (r_asg (look_int 0)) rfl rfl rfl ?_
        refine Sq.nil ?_
        refine To.next ?_
        refine Wp.ret ?_
        replace h := some_in h
        subst h
        exact To.end3 rfl (rv_c (i := 0) ty26 rfl rfl) (rv_t rfl) (rv_t rfl)
set_option maxHeartbeats 2000000 in
theorem C_law25_CubeMinus {x0 : Vector T_api_Value 4} {x1 : Vector T_api_Value 4} {x2 : Vector T_api_Value 4} {x3 : Vector T_api_Value 4}  {r : Bool} (h : L_law25_CubeMinus x0 x1 x2 x3 = some r) : Meets Try.prog 3 [VP.of (x0), VP.of (x1), VP.of (x2), VP.of (x3)] (VP.of (r)) := by
  unfold L_law25_CubeMinus at h
  refine Meets.of Try.func3 rfl Try.ntmps3 rfl fun W A => ?_
  refine Wp.seq ?_
  refine Wp.reg ?_
  refine Sq.box (z := (x0 : Vector T_api_Value 4)) (look_t rfl) rfl fun p1 => ?_
  refine Sq.box (z := (x1 : Vector T_api_Value 4)) (look_t rfl) rfl fun p2 => ?_
  refine Sq.box (z := (x2 : Vector T_api_Value 4)) (look_t rfl) rfl fun p3 => ?_
  refine Sq.box (z := (x3 : Vector T_api_Value 4)) (look_t rfl) rfl fun p4 => ?_
  refine Sq.v (r_asg (look_bool false)) rfl rfl rfl ?_
  refine Sq.nil ?_
  refine To.next ?_
  refine Wp.seq ?_
  obtain ⟨y1, hy1, h⟩ := bind_some h
  refine Wp.draw mixed 10 [some 23, some 24, some 25, some 26, some 27, some 28, some 29, some 9, some 10, none] [[], [], [0, 1], [2], [], [], [4, 5], [], [], [3, 7]] [.val (VP.of (x0)), .val (VP.of (x1)), .val (VP.of ({ f_Value := x0, f_Mask := x1 : T_cube_Cube })), .val (VP.of (y1)), .val (VP.of (x2)), .val (VP.of (x3)), .val (VP.of ({ f_Value := x2, f_Mask := x3 : T_cube_Cube })), .new (.var (default : T_cube_Cube)), .new (.var (default : T_cube_Cube)), .stn 7 (.var (y1 : T_cube_Cube))] [false, false, false, false, false, false, false, false, false, true] (by kernel_rfl) rfl rfl rfl (fun ps1 => ⟨fun L' hL => HO.v (r_load (i := 3) (Lens.id (Vector T_api_Value 4)) (r := x0) ty26 (look_t rfl) (hL _ _ rfl (by kernel_rfl)) rfl rfl) rfl, fun L' hL => HO.v (r_load (i := 2) (Lens.id (Vector T_api_Value 4)) (r := x1) ty26 (look_t rfl) (hL _ _ rfl (by kernel_rfl)) rfl rfl) rfl, fun L' hL => HO.v (r_build (b := { f_Value := x0, f_Mask := x1 : T_cube_Cube }) rfl bu28 zr28 (.cons le_T_cube_Cube_Value rfl (look_t rfl) rfl (.cons le_T_cube_Cube_Mask rfl (look_t rfl) rfl (.nil)))) rfl, fun L' hL => HO.v (r_call en13 (C_law25_canonical hy1) ⟨look_t rfl, trivial⟩) rfl, fun L' hL => HO.v (r_load (i := 1) (Lens.id (Vector T_api_Value 4)) (r := x2) ty26 (look_t rfl) (hL _ _ rfl (by kernel_rfl)) rfl rfl) rfl, fun L' hL => HO.v (r_load (i := 0) (Lens.id (Vector T_api_Value 4)) (r := x3) ty26 (look_t rfl) (hL _ _ rfl (by kernel_rfl)) rfl rfl) rfl, fun L' hL => HO.v (r_build (b := { f_Value := x2, f_Mask := x3 : T_cube_Cube }) rfl bu28 zr28 (.cons le_T_cube_Cube_Value rfl (look_t rfl) rfl (.cons le_T_cube_Cube_Mask rfl (look_t rfl) rfl (.nil)))) rfl, ao_alloc zr28, ao_alloc zr28, ⟨rfl, _, rfl, fun L' q hq => so_var (i := q) (Lens.id T_cube_Cube) (v := (y1 : T_cube_Cube)) (b' := (y1 : T_cube_Cube)) ty28 (look_t rfl) (look_t rfl) hq rfl rfl⟩, trivial⟩) fun ps1 => ?_
  refine Sq.store (i := 1) (Lens.id T_cube_Cube) (v := ({ f_Value := x2, f_Mask := x3 : T_cube_Cube } : T_cube_Cube)) (b' := ({ f_Value := x2, f_Mask := x3 : T_cube_Cube } : T_cube_Cube)) ty28 (look_t rfl) (look_t rfl) rfl rfl rfl ?_
  refine Sq.nil ?_
  refine To.next ?_
  refine Wp.seq ?_
  refine Wp.seq ?_
  obtain ⟨y2, hy2, h⟩ := bind_some h
  obtain ⟨y3, hy3, h⟩ := bind_some h
  refine Wp.draw mixed 9 [some 30, some 31, some 32, some 33, some 34, some 35, some 36, some 37, some 38] [[], [0], [], [], [2, 3], [], [1, 4, 5], [6], []] [.val (VP.of ({ f_Value := x2, f_Mask := x3 : T_cube_Cube })), .val (VP.of (y2)), .val (VP.of (y1)), .val (VP.of ({ f_Value := x2, f_Mask := x3 : T_cube_Cube })), .val (VP.of (y3)), .val (VP.of (default : T_cube_Cube)), .val (VP.of ([y2, y3, (default : T_cube_Cube)])), .val (VP.of ([y2, y3, (default : T_cube_Cube)].length : Int)), .val (VP.of (0 : Int))] [false, false, false, false, false, false, false, false, false] (by kernel_rfl) rfl rfl rfl (fun ps2 => ⟨fun L' hL => HO.v (r_load (i := 1) (Lens.id T_cube_Cube) (r := ({ f_Value := x2, f_Mask := x3 : T_cube_Cube })) ty28 (look_t rfl) (hL _ _ rfl rfl) rfl rfl) rfl, fun L' hL => HO.v (r_call en13 (C_law25_canonical hy2) ⟨look_t rfl, trivial⟩) rfl, fun L' hL => HO.v (r_load (i := 0) (Lens.id T_cube_Cube) (r := y1) ty28 (look_t rfl) (hL _ _ rfl rfl) rfl rfl) rfl, fun L' hL => HO.v (r_load (i := 1) (Lens.id T_cube_Cube) (r := ({ f_Value := x2, f_Mask := x3 : T_cube_Cube })) ty28 (look_t rfl) (hL _ _ rfl rfl) rfl rfl) rfl, fun L' hL => HO.v (r_call en14 (C_law25_near hy3) ⟨look_t rfl, look_t rfl, trivial⟩) rfl, fun L' hL => HO.v (r_build (b := (default : T_cube_Cube)) rfl bu28 zr28 (.nil)) rfl, fun L' hL => HO.v (r_bsl (r := [y2, y3, (default : T_cube_Cube)]) Try.underlying31 ty28 zr28 rfl rfl (.cons (by simp) (look_t rfl) (.cons (by simp) (look_t rfl) (.cons (by simp) (look_t rfl) (.nil))))) rfl, fun L' hL => HO.v (r_len Try.underlying31 (look_t rfl)) rfl, fun L' hL => HO.v (r_move (look_int 0)) rfl, trivial⟩) fun ps2 => ?_
  refine Sq.nil ?_
  refine To.next ?_
  refine Wp.block ?_
  obtain ⟨e1, hl, h⟩ := bind_some h
  refine Wp.loopG (σ := Int) (ε := (Int × Bool) ⊕ ((List T_cube_Cube) × (List (Vector (BitVec 8) 512)) × Int × Bool × Bool)) (γ := Unit) (δ := Unit) hl (fun s1 g1 => [(0, VP.of (x0)), (1, VP.of (x1)), (2, VP.of (x2)), (3, VP.of (x3)), (4, VP.eq (.pointer (some ⟨p1, 0, none⟩))), (5, VP.eq (.pointer (some ⟨p2, 0, none⟩))), (6, VP.eq (.pointer (some ⟨p3, 0, none⟩))), (7, VP.eq (.pointer (some ⟨p4, 0, none⟩))), (8, VP.of (false)), (9, VP.eq (.pointer (some ⟨(ps1 7), 0, none⟩))), (10, VP.eq (.pointer (some ⟨(ps1 8), 0, none⟩))), (36, VP.of ([y2, y3, (default : T_cube_Cube)])), (37, VP.of ([y2, y3, (default : T_cube_Cube)].length : Int)), (38, VP.of (s1))]) (fun s1 g1 => [⟨some (ps1 7), .var (y1 : T_cube_Cube)⟩, ⟨some (ps1 8), .var ({ f_Value := x2, f_Mask := x3 : T_cube_Cube } : T_cube_Cube)⟩, ⟨some p4, .var (x3 : Vector T_api_Value 4)⟩, ⟨some p3, .var (x2 : Vector T_api_Value 4)⟩, ⟨some p2, .var (x1 : Vector T_api_Value 4)⟩, ⟨some p1, .var (x0 : Vector T_api_Value 4)⟩]) (fun q1 => Sum.elim (fun q1 => Exit.exit 0) (fun q1 => Exit.ret) q1) (fun q1 g1 => Sum.elim (fun q1 => [(0, VP.of (x0)), (1, VP.of (x1)), (2, VP.of (x2)), (3, VP.of (x3)), (4, VP.eq (.pointer (some ⟨p1, 0, none⟩))), (5, VP.eq (.pointer (some ⟨p2, 0, none⟩))), (6, VP.eq (.pointer (some ⟨p3, 0, none⟩))), (7, VP.eq (.pointer (some ⟨p4, 0, none⟩))), (8, VP.of (false)), (9, VP.eq (.pointer (some ⟨(ps1 7), 0, none⟩))), (10, VP.eq (.pointer (some ⟨(ps1 8), 0, none⟩))), (36, VP.of ([y2, y3, (default : T_cube_Cube)])), (37, VP.of ([y2, y3, (default : T_cube_Cube)].length : Int)), (38, VP.of (q1.1)), (39, VP.of (q1.2))]) (fun q1 => [(0, VP.of (x0)), (1, VP.of (x1)), (2, VP.of (x2)), (3, VP.of (x3)), (4, VP.eq (.pointer (some ⟨p1, 0, none⟩))), (5, VP.eq (.pointer (some ⟨p2, 0, none⟩))), (6, VP.eq (.pointer (some ⟨p3, 0, none⟩))), (7, VP.eq (.pointer (some ⟨p4, 0, none⟩))), (8, VP.of (false)), (9, VP.eq (.pointer (some ⟨(ps1 7), 0, none⟩))), (10, VP.eq (.pointer (some ⟨(ps1 8), 0, none⟩))), (13, VP.of (q1.1)), (14, VP.of (q1.2.1)), (36, VP.of ([y2, y3, (default : T_cube_Cube)])), (37, VP.of ([y2, y3, (default : T_cube_Cube)].length : Int)), (38, VP.of (q1.2.2.1)), (39, VP.of (q1.2.2.2.1)), (54, VP.of (q1.2.2.2.2))]) q1) (fun q1 g1 => Sum.elim (fun q1 => [⟨some (ps1 7), .var (y1 : T_cube_Cube)⟩, ⟨some (ps1 8), .var ({ f_Value := x2, f_Mask := x3 : T_cube_Cube } : T_cube_Cube)⟩, ⟨some p4, .var (x3 : Vector T_api_Value 4)⟩, ⟨some p3, .var (x2 : Vector T_api_Value 4)⟩, ⟨some p2, .var (x1 : Vector T_api_Value 4)⟩, ⟨some p1, .var (x0 : Vector T_api_Value 4)⟩]) (fun q1 => [⟨some (ps1 7), .var (y1 : T_cube_Cube)⟩, ⟨some (ps1 8), .var ({ f_Value := x2, f_Mask := x3 : T_cube_Cube } : T_cube_Cube)⟩, ⟨some p4, .var (x3 : Vector T_api_Value 4)⟩, ⟨some p3, .var (x2 : Vector T_api_Value 4)⟩, ⟨some p2, .var (x1 : Vector T_api_Value 4)⟩, ⟨some p1, .var (x0 : Vector T_api_Value 4)⟩]) q1) () rfl (.same rfl (.same rfl (.same rfl (.same rfl (.same rfl (.same rfl (.same rfl (.same rfl (.same rfl (.same rfl (.same rfl (.same rfl (.same rfl (.same rfl .nil)))))))))))))) (fun s1 r h g1 => ?_) (fun g1 => ?_)
  · clear hl
    refine Wp.seq ?_
    refine Wp.reg ?_
    refine Sq.v (r_lss (look_t rfl) (look_t rfl)) rfl rfl rfl ?_
    refine Sq.nil ?_
    refine To.next ?_
    refine Wp.seq ?_
    refine Wp.cond (look_t rfl) (fun hc => ?_) (fun hc => ?_)
    · replace h := cond_t hc h
      refine Wp.skip ?_
      refine To.next ?_
      refine Wp.seq ?_
      refine Wp.block ?_
      refine Wp.seq ?_
      refine Wp.reg ?_
      obtain ⟨k1, hk1, h⟩ := bind_some h
      refine Sq.v (r_ias (k := k1) Try.underlying31 ty28 (look_t rfl) (look_t rfl) (idx_some hk1)) rfl rfl rfl ?_
      refine Sq.v (r_loadp ty28 (look_t rfl)) rfl rfl rfl ?_
      refine Sq.alloc zr28 rfl fun p5 => ?_
      refine Sq.store (i := 0) (Lens.id T_cube_Cube) (v := (lget [y2, y3, (default : T_cube_Cube)] k1 : T_cube_Cube)) (b' := (lget [y2, y3, (default : T_cube_Cube)] k1 : T_cube_Cube)) ty28 (look_t rfl) (look_t rfl) rfl rfl rfl ?_
      refine Sq.nil ?_
      refine To.next ?_
      refine Wp.seq ?_
      refine Wp.reg ?_
      refine Sq.v (r_load (i := 1) (Lens.id T_cube_Cube) (r := y1) ty28 (look_t rfl) rfl rfl rfl) rfl rfl rfl ?_
      refine Sq.v (r_load (i := 0) (Lens.id T_cube_Cube) (r := (lget [y2, y3, (default : T_cube_Cube)] k1)) ty28 (look_t rfl) rfl rfl rfl) rfl rfl rfl ?_
      obtain ⟨y4, hy4, h⟩ := bind_some h
      refine Sq.v (r_call en15 (C_cube_Minus hy4) ⟨look_t rfl, look_t rfl, trivial⟩) rfl rfl rfl ?_
      refine Sq.v (r_asg (look_t rfl)) rfl rfl rfl ?_
      refine Sq.nil ?_
      refine To.next ?_
      refine Wp.seq ?_
      obtain ⟨y5, hy5, h⟩ := bind_some h
      obtain ⟨y6, hy6, h⟩ := bind_some h
      obtain ⟨y7, hy7, h⟩ := bind_some h
      refine Wp.draw mixed 5 [some 45, some 46, some 47, some 48, some 49] [[], [0], [], [2], [1, 3]] [.val (VP.of (y1)), .val (VP.of (y5)), .val (VP.of (lget [y2, y3, (default : T_cube_Cube)] k1)), .val (VP.of (y6)), .val (VP.of (y7))] [false, false, false, false, false] (by kernel_rfl) rfl rfl rfl (fun ps3 => ⟨fun L' hL => HO.v (r_load (i := 1) (Lens.id T_cube_Cube) (r := y1) ty28 (look_t rfl) (hL _ _ rfl rfl) rfl rfl) rfl, fun L' hL => HO.v (r_call en17 (C_law25_bits hy5) ⟨look_t rfl, trivial⟩) rfl, fun L' hL => HO.v (r_load (i := 0) (Lens.id T_cube_Cube) (r := (lget [y2, y3, (default : T_cube_Cube)] k1)) ty28 (look_t rfl) (hL _ _ rfl rfl) rfl rfl) rfl, fun L' hL => HO.v (r_call en17 (C_law25_bits hy6) ⟨look_t rfl, trivial⟩) rfl, fun L' hL => HO.v (r_call en16 (C_ref25_Minus hy7) ⟨look_t rfl, look_t rfl, trivial⟩) rfl, trivial⟩) fun ps3 => ?_
      refine Sq.v (r_asg (look_t rfl)) rfl rfl rfl ?_
      refine Sq.nil ?_
      refine To.next ?_
      refine Wp.seq ?_
      refine Wp.seq ?_
      refine Wp.reg ?_
      refine Sq.v (r_move (look_t rfl)) rfl rfl rfl ?_
      refine Sq.v (r_len Try.underlying31 (look_t rfl)) rfl rfl rfl ?_
      refine Sq.v (r_move (look_t rfl)) rfl rfl rfl ?_
      refine Sq.v (r_len Try.underlying33 (look_t rfl)) rfl rfl rfl ?_
      refine Sq.v (r_neq (look_t rfl) (look_t rfl)) rfl rfl rfl ?_
      refine Sq.nil ?_
      refine To.next ?_
      refine Wp.cond (look_t rfl) (fun hc => ?_) (fun hc => ?_)
      · replace h := cond_t hc h
        refine Wp.seq ?_
        refine Wp.reg ?_
        refine Sq.v (r_asg (look_bool false)) rfl rfl rfl ?_
        refine Sq.nil ?_
        refine To.next ?_
        refine Wp.ret ?_
        refine To.ret ?_
        refine To.bret ?_
        refine To.ret ?_
        replace h := some_in h
        subst h
        exact To.leaveG () 1 rfl (by simp) rfl (.same rfl (.same rfl (.same rfl (.same rfl (.same rfl (.same rfl (.same rfl (.same rfl (.same rfl (.same rfl (.same rfl (.same rfl (.same rfl (.same rfl (.same rfl (.same rfl (.same rfl (.same rfl .nil))))))))))))))))))
      · replace h := cond_f hc h
        refine Wp.skip ?_
        refine To.next ?_
        refine Wp.seq ?_
        refine Wp.reg ?_
        refine Sq.v (r_move (look_t rfl)) rfl rfl rfl ?_
        refine Sq.v (r_len Try.underlying31 (look_t rfl)) rfl rfl rfl ?_
        refine Sq.v (r_move (look_int 0)) rfl rfl rfl ?_
        refine Sq.nil ?_
        refine To.next ?_
        refine Wp.block ?_
        obtain ⟨e2, hl, h⟩ := bind_some h
        refine Wp.loopG (σ := Int) (ε := (Int × Bool) ⊕ (Int × Int × Bool × Bool)) (γ := Unit) (δ := Unit) hl (fun s2 g2 => [(0, VP.of (x0)), (1, VP.of (x1)), (2, VP.of (x2)), (3, VP.of (x3)), (4, VP.eq (.pointer (some ⟨p1, 0, none⟩))), (5, VP.eq (.pointer (some ⟨p2, 0, none⟩))), (6, VP.eq (.pointer (some ⟨p3, 0, none⟩))), (7, VP.eq (.pointer (some ⟨p4, 0, none⟩))), (8, VP.of (false)), (9, VP.eq (.pointer (some ⟨(ps1 7), 0, none⟩))), (10, VP.eq (.pointer (some ⟨(ps1 8), 0, none⟩))), (12, VP.eq (.pointer (some ⟨p5, 0, none⟩))), (13, VP.of (y4)), (14, VP.of (y7)), (36, VP.of ([y2, y3, (default : T_cube_Cube)])), (37, VP.of ([y2, y3, (default : T_cube_Cube)].length : Int)), (38, VP.of (s1)), (39, VP.of (decide (s1 < ([y2, y3, (default : T_cube_Cube)].length : Int)))), (54, VP.of ((y4.length : Int) != (y7.length : Int))), (55, VP.of (y4)), (56, VP.of (y4.length : Int)), (57, VP.of (s2))]) (fun s2 g2 => [⟨some p5, .var (lget [y2, y3, (default : T_cube_Cube)] k1 : T_cube_Cube)⟩, ⟨some (ps1 7), .var (y1 : T_cube_Cube)⟩, ⟨some (ps1 8), .var ({ f_Value := x2, f_Mask := x3 : T_cube_Cube } : T_cube_Cube)⟩, ⟨some p4, .var (x3 : Vector T_api_Value 4)⟩, ⟨some p3, .var (x2 : Vector T_api_Value 4)⟩, ⟨some p2, .var (x1 : Vector T_api_Value 4)⟩, ⟨some p1, .var (x0 : Vector T_api_Value 4)⟩]) (fun q2 => Sum.elim (fun q2 => Exit.exit 2) (fun q2 => Exit.ret) q2) (fun q2 g2 => Sum.elim (fun q2 => [(0, VP.of (x0)), (1, VP.of (x1)), (2, VP.of (x2)), (3, VP.of (x3)), (4, VP.eq (.pointer (some ⟨p1, 0, none⟩))), (5, VP.eq (.pointer (some ⟨p2, 0, none⟩))), (6, VP.eq (.pointer (some ⟨p3, 0, none⟩))), (7, VP.eq (.pointer (some ⟨p4, 0, none⟩))), (8, VP.of (false)), (9, VP.eq (.pointer (some ⟨(ps1 7), 0, none⟩))), (10, VP.eq (.pointer (some ⟨(ps1 8), 0, none⟩))), (12, VP.eq (.pointer (some ⟨p5, 0, none⟩))), (13, VP.of (y4)), (14, VP.of (y7)), (36, VP.of ([y2, y3, (default : T_cube_Cube)])), (37, VP.of ([y2, y3, (default : T_cube_Cube)].length : Int)), (38, VP.of (s1)), (39, VP.of (decide (s1 < ([y2, y3, (default : T_cube_Cube)].length : Int)))), (54, VP.of ((y4.length : Int) != (y7.length : Int))), (55, VP.of (y4)), (56, VP.of (y4.length : Int)), (57, VP.of (q2.1)), (58, VP.of (q2.2))]) (fun q2 => [(0, VP.of (x0)), (1, VP.of (x1)), (2, VP.of (x2)), (3, VP.of (x3)), (4, VP.eq (.pointer (some ⟨p1, 0, none⟩))), (5, VP.eq (.pointer (some ⟨p2, 0, none⟩))), (6, VP.eq (.pointer (some ⟨p3, 0, none⟩))), (7, VP.eq (.pointer (some ⟨p4, 0, none⟩))), (8, VP.of (false)), (9, VP.eq (.pointer (some ⟨(ps1 7), 0, none⟩))), (10, VP.eq (.pointer (some ⟨(ps1 8), 0, none⟩))), (12, VP.eq (.pointer (some ⟨p5, 0, none⟩))), (13, VP.of (y4)), (14, VP.of (y7)), (15, VP.of (q2.1)), (36, VP.of ([y2, y3, (default : T_cube_Cube)])), (37, VP.of ([y2, y3, (default : T_cube_Cube)].length : Int)), (38, VP.of (s1)), (39, VP.of (decide (s1 < ([y2, y3, (default : T_cube_Cube)].length : Int)))), (54, VP.of ((y4.length : Int) != (y7.length : Int))), (55, VP.of (y4)), (56, VP.of (y4.length : Int)), (57, VP.of (q2.2.1)), (58, VP.of (q2.2.2.1)), (74, VP.of (q2.2.2.2))]) q2) (fun q2 g2 => Sum.elim (fun q2 => [⟨some p5, .var (lget [y2, y3, (default : T_cube_Cube)] k1 : T_cube_Cube)⟩, ⟨some (ps1 7), .var (y1 : T_cube_Cube)⟩, ⟨some (ps1 8), .var ({ f_Value := x2, f_Mask := x3 : T_cube_Cube } : T_cube_Cube)⟩, ⟨some p4, .var (x3 : Vector T_api_Value 4)⟩, ⟨some p3, .var (x2 : Vector T_api_Value 4)⟩, ⟨some p2, .var (x1 : Vector T_api_Value 4)⟩, ⟨some p1, .var (x0 : Vector T_api_Value 4)⟩]) (fun q2 => [⟨some p5, .var (lget [y2, y3, (default : T_cube_Cube)] k1 : T_cube_Cube)⟩, ⟨some (ps1 7), .var (y1 : T_cube_Cube)⟩, ⟨some (ps1 8), .var ({ f_Value := x2, f_Mask := x3 : T_cube_Cube } : T_cube_Cube)⟩, ⟨some p4, .var (x3 : Vector T_api_Value 4)⟩, ⟨some p3, .var (x2 : Vector T_api_Value 4)⟩, ⟨some p2, .var (x1 : Vector T_api_Value 4)⟩, ⟨some p1, .var (x0 : Vector T_api_Value 4)⟩]) q2) () rfl (.same rfl (.same rfl (.same rfl (.same rfl (.same rfl (.same rfl (.same rfl (.same rfl (.same rfl (.same rfl (.same rfl (.same rfl (.same rfl (.same rfl (.same rfl (.same rfl (.same rfl (.same rfl (.same rfl (.same rfl (.same rfl (.same rfl .nil)))))))))))))))))))))) (fun s2 r h g2 => ?_) (fun g2 => ?_)
        · clear hl
          refine Wp.seq ?_
          refine Wp.reg ?_
          refine Sq.v (r_lss (look_t rfl) (look_t rfl)) rfl rfl rfl ?_
          refine Sq.nil ?_
          refine To.next ?_
          refine Wp.seq ?_
          refine Wp.cond (look_t rfl) (fun hc => ?_) (fun hc => ?_)
          · replace h := cond_t hc h
            refine Wp.skip ?_
            refine To.next ?_
            refine Wp.seq ?_
            refine Wp.block ?_
            refine Wp.seq ?_
            refine Wp.reg ?_
            refine Sq.v (r_move (look_t rfl)) rfl rfl rfl ?_
            obtain ⟨k2, hk2, h⟩ := bind_some h
            refine Sq.v (r_ias (k := k2) Try.underlying31 ty28 (look_t rfl) (look_t rfl) (idx_some hk2)) rfl rfl rfl ?_
            refine Sq.v (r_loadp ty28 (look_t rfl)) rfl rfl rfl ?_
            refine Sq.alloc zr28 rfl fun p6 => ?_
            refine Sq.v (r_asg (look_t rfl)) rfl rfl rfl ?_
            refine Sq.store (i := 0) (Lens.id T_cube_Cube) (v := (lget y4 k2 : T_cube_Cube)) (b' := (lget y4 k2 : T_cube_Cube)) ty28 (look_t rfl) (look_t rfl) rfl rfl rfl ?_
            refine Sq.nil ?_
            refine To.next ?_
            refine Wp.seq ?_
            refine Wp.seq ?_
            obtain ⟨y8, hy8, h⟩ := bind_some h
            obtain ⟨k3, hk3, h⟩ := bind_some h
            obtain ⟨y9, hy9, h⟩ := bind_some h
            refine Wp.draw mixed 13 [some 62, some 63, some 64, some 65, some 66, some 67, some 68, some 69, some 70, some 71, some 72, some 73, some 74] [[], [0], [], [], [2, 3], [4], [1, 5], [6], [7], [7], [7, 9], [7, 8, 10], [7, 11]] [.val (VP.of (lget y4 k2)), .val (VP.of (y8)), .val (VP.of (y7)), .val (VP.of (s2)), .val (VP.ptr (lget y7 k3)), .val (VP.of (lget y7 k3)), .val (VP.of (!decide (y8 = lget y7 k3))), .val (VP.of (!decide (y8 = lget y7 k3))), .val (VP.cond ((!decide (y8 = lget y7 k3)) = false) (VP.of (lget y4 k2))), .val (VP.cond ((!decide (y8 = lget y7 k3)) = false) (VP.of (lget y4 k2))), .val (VP.cond ((!decide (y8 = lget y7 k3)) = false) (VP.of (y9))), .val (VP.cond ((!decide (y8 = lget y7 k3)) = false) (VP.of (!decide ((lget y4 k2) = y9)))), .val (VP.of ((!decide (y8 = lget y7 k3)) || (!decide ((lget y4 k2) = y9))))] [false, false, false, false, false, false, false, false, false, false, false, false, false] (by kernel_rfl) rfl rfl rfl (fun ps4 => ⟨fun L' hL => HO.v (r_load (i := 0) (Lens.id T_cube_Cube) (r := (lget y4 k2)) ty28 (look_t rfl) (hL _ _ rfl rfl) rfl rfl) rfl, fun L' hL => HO.v (r_call en17 (C_law25_bits hy8) ⟨look_t rfl, trivial⟩) rfl, fun L' hL => HO.v (r_move (look_t rfl)) rfl, fun L' hL => HO.v (r_move (look_t rfl)) rfl, fun L' hL => HO.v (r_ias (k := k3) Try.underlying33 ty36 (look_t rfl) (look_t rfl) (idx_some hk3)) rfl, fun L' hL => HO.v (r_loadp ty36 (look_t rfl)) rfl, fun L' hL => HO.v (r_neA eqv36 rfl eqg36 rfl (look_t rfl) (look_t rfl)) rfl, fun L' hL => HO.v (r_move (look_t rfl)) rfl, fun L' hL => HO.g (fun hb => r_load (i := 0) (Lens.id T_cube_Cube) (r := (lget y4 k2)) ty28 (look_t rfl) (hL _ _ rfl rfl) rfl rfl) rfl rfl rfl, fun L' hL => HO.g (fun hb => r_load (i := 0) (Lens.id T_cube_Cube) (r := (lget y4 k2)) ty28 (look_t rfl) (hL _ _ rfl rfl) rfl rfl) rfl rfl rfl, fun L' hL => HO.g (fun hb => r_call en13 (C_law25_canonical (condM_some hy9 hb)) ⟨look_tc rfl hb, trivial⟩) rfl rfl rfl, fun L' hL => HO.g (fun hb => r_neA eqv28 rfl eqg28 rfl (look_tc rfl hb) (look_tc rfl hb)) rfl rfl rfl, fun L' hL => HO.v (r_or (look_t rfl) (look_t rfl) (fun h => h)) rfl, trivial⟩) fun ps4 => ?_
            refine Sq.nil ?_
            refine To.next ?_
            refine Wp.cond (look_t rfl) (fun hc => ?_) (fun hc => ?_)
            · replace h := cond_t hc h
              refine Wp.seq ?_
              refine Wp.reg ?_
              refine Sq.v (r_asg (look_bool false)) rfl rfl rfl ?_
              refine Sq.nil ?_
              refine To.next ?_
              refine Wp.ret ?_
              refine To.ret ?_
              refine To.bret ?_
              refine To.ret ?_
              replace h := some_in h
              subst h
              exact To.leaveG () 1 rfl (by simp) rfl (.same rfl (.same rfl (.same rfl (.same rfl (.same rfl (.same rfl (.same rfl (.same rfl (.same rfl (.same rfl (.same rfl (.same rfl (.same rfl (.same rfl (.same rfl (.same rfl (.same rfl (.same rfl (.same rfl (.same rfl (.same rfl (.same rfl (.same rfl (.same rfl (.same rfl .nil)))))))))))))))))))))))))
            · replace h := cond_f hc h
              refine Wp.skip ?_
              refine To.next ?_
              refine Wp.seq ?_
              refine Wp.seq ?_
              refine Wp.reg ?_
              refine Sq.v (r_load (i := 0) (Lens.id T_cube_Cube) (r := (lget y4 k2)) ty28 (look_t rfl) rfl rfl rfl) rfl rfl rfl ?_
              refine Sq.v (r_load (i := 1) (Lens.id T_cube_Cube) (r := (lget [y2, y3, (default : T_cube_Cube)] k1)) ty28 (look_t rfl) rfl rfl rfl) rfl rfl rfl ?_
              obtain ⟨y10, hy10, h⟩ := bind_some h
              refine Sq.v (r_call en18 (C_cube_Meet hy10) ⟨look_t rfl, look_t rfl, trivial⟩) rfl rfl rfl ?_
              refine Sq.v (r_move (look_t rfl)) rfl rfl rfl ?_
              refine Sq.v (r_ext (look_t rfl) rfl) rfl rfl rfl ?_
              refine Sq.v (r_ext (look_t rfl) rfl) rfl rfl rfl ?_
              refine Sq.alloc zr28 rfl fun p7 => ?_
              refine Sq.store (i := 0) (Lens.id T_cube_Cube) (v := (y10.1 : T_cube_Cube)) (b' := (y10.1 : T_cube_Cube)) ty28 (look_t rfl) (look_t rfl) rfl rfl rfl ?_
              refine Sq.v (r_asg (look_t rfl)) rfl rfl rfl ?_
              refine Sq.nil ?_
              refine To.next ?_
              refine Wp.seq ?_
              refine Wp.reg ?_
              refine Sq.v (r_move (look_t rfl)) rfl rfl rfl ?_
              refine Sq.nil ?_
              refine To.next ?_
              refine Wp.cond (look_t rfl) (fun hc => ?_) (fun hc => ?_)
              · replace h := cond_t hc h
                refine Wp.seq ?_
                refine Wp.reg ?_
                refine Sq.v (r_asg (look_bool false)) rfl rfl rfl ?_
                refine Sq.nil ?_
                refine To.next ?_
                refine Wp.ret ?_
                refine To.ret ?_
                refine To.bret ?_
                refine To.ret ?_
                replace h := some_in h
                subst h
                exact To.leaveG () 2 rfl (by simp) rfl (.same rfl (.same rfl (.same rfl (.same rfl (.same rfl (.same rfl (.same rfl (.same rfl (.same rfl (.same rfl (.same rfl (.same rfl (.same rfl (.same rfl (.same rfl (.same rfl (.same rfl (.same rfl (.same rfl (.same rfl (.same rfl (.same rfl (.same rfl (.same rfl (.same rfl .nil)))))))))))))))))))))))))
              · replace h := cond_f hc h
                refine Wp.skip ?_
                refine To.next ?_
                refine Wp.seq ?_
                refine Wp.reg ?_
                refine Sq.v (r_move (look_t rfl)) rfl rfl rfl ?_
                refine Sq.v (r_move (look_t rfl)) rfl rfl rfl ?_
                refine Sq.v (r_min (look_t rfl) (look_int 3)) rfl rfl rfl ?_
                obtain ⟨y11, hy11, h⟩ := bind_some h
                refine Sq.v (r_slice Try.underlying31 ty28 (look_t rfl) .none (.some (look_t rfl)) hy11) rfl rfl rfl ?_
                refine Sq.v (r_len Try.underlying31 (look_t rfl)) rfl rfl rfl ?_
                refine Sq.v (r_move (look_int 0)) rfl rfl rfl ?_
                refine Sq.nil ?_
                refine To.next ?_
                refine Wp.block ?_
                obtain ⟨e3, hl, h⟩ := bind_some h
                refine Wp.loopG (σ := Int) (ε := (Int × Bool) ⊕ (Bool × Int × Bool × Bool)) (γ := Unit) (δ := Unit) hl (fun s3 g3 => [(0, VP.of (x0)), (1, VP.of (x1)), (2, VP.of (x2)), (3, VP.of (x3)), (4, VP.eq (.pointer (some ⟨p1, 0, none⟩))), (5, VP.eq (.pointer (some ⟨p2, 0, none⟩))), (6, VP.eq (.pointer (some ⟨p3, 0, none⟩))), (7, VP.eq (.pointer (some ⟨p4, 0, none⟩))), (8, VP.of (false)), (9, VP.eq (.pointer (some ⟨(ps1 7), 0, none⟩))), (10, VP.eq (.pointer (some ⟨(ps1 8), 0, none⟩))), (12, VP.eq (.pointer (some ⟨p5, 0, none⟩))), (13, VP.of (y4)), (14, VP.of (y7)), (15, VP.of (s2)), (16, VP.eq (.pointer (some ⟨p6, 0, none⟩))), (18, VP.of (y10.2)), (36, VP.of ([y2, y3, (default : T_cube_Cube)])), (37, VP.of ([y2, y3, (default : T_cube_Cube)].length : Int)), (38, VP.of (s1)), (39, VP.of (decide (s1 < ([y2, y3, (default : T_cube_Cube)].length : Int)))), (54, VP.of ((y4.length : Int) != (y7.length : Int))), (55, VP.of (y4)), (56, VP.of (y4.length : Int)), (57, VP.of (s2)), (58, VP.of (decide (s2 < (y4.length : Int)))), (74, VP.of ((!decide (y8 = lget y7 k3)) || (!decide ((lget y4 k2) = y9)))), (81, VP.of (y10.2)), (85, VP.of (y11)), (86, VP.of (y11.length : Int)), (87, VP.of (s3))]) (fun s3 g3 => [⟨some p7, .var (y10.1 : T_cube_Cube)⟩, ⟨some p6, .var (lget y4 k2 : T_cube_Cube)⟩, ⟨some p5, .var (lget [y2, y3, (default : T_cube_Cube)] k1 : T_cube_Cube)⟩, ⟨some (ps1 7), .var (y1 : T_cube_Cube)⟩, ⟨some (ps1 8), .var ({ f_Value := x2, f_Mask := x3 : T_cube_Cube } : T_cube_Cube)⟩, ⟨some p4, .var (x3 : Vector T_api_Value 4)⟩, ⟨some p3, .var (x2 : Vector T_api_Value 4)⟩, ⟨some p2, .var (x1 : Vector T_api_Value 4)⟩, ⟨some p1, .var (x0 : Vector T_api_Value 4)⟩]) (fun q3 => Sum.elim (fun q3 => Exit.exit 4) (fun q3 => Exit.ret) q3) (fun q3 g3 => Sum.elim (fun q3 => [(0, VP.of (x0)), (1, VP.of (x1)), (2, VP.of (x2)), (3, VP.of (x3)), (4, VP.eq (.pointer (some ⟨p1, 0, none⟩))), (5, VP.eq (.pointer (some ⟨p2, 0, none⟩))), (6, VP.eq (.pointer (some ⟨p3, 0, none⟩))), (7, VP.eq (.pointer (some ⟨p4, 0, none⟩))), (8, VP.of (false)), (9, VP.eq (.pointer (some ⟨(ps1 7), 0, none⟩))), (10, VP.eq (.pointer (some ⟨(ps1 8), 0, none⟩))), (12, VP.eq (.pointer (some ⟨p5, 0, none⟩))), (13, VP.of (y4)), (14, VP.of (y7)), (15, VP.of (s2)), (16, VP.eq (.pointer (some ⟨p6, 0, none⟩))), (18, VP.of (y10.2)), (36, VP.of ([y2, y3, (default : T_cube_Cube)])), (37, VP.of ([y2, y3, (default : T_cube_Cube)].length : Int)), (38, VP.of (s1)), (39, VP.of (decide (s1 < ([y2, y3, (default : T_cube_Cube)].length : Int)))), (54, VP.of ((y4.length : Int) != (y7.length : Int))), (55, VP.of (y4)), (56, VP.of (y4.length : Int)), (57, VP.of (s2)), (58, VP.of (decide (s2 < (y4.length : Int)))), (74, VP.of ((!decide (y8 = lget y7 k3)) || (!decide ((lget y4 k2) = y9)))), (81, VP.of (y10.2)), (85, VP.of (y11)), (86, VP.of (y11.length : Int)), (87, VP.of (q3.1)), (88, VP.of (q3.2))]) (fun q3 => [(0, VP.of (x0)), (1, VP.of (x1)), (2, VP.of (x2)), (3, VP.of (x3)), (4, VP.eq (.pointer (some ⟨p1, 0, none⟩))), (5, VP.eq (.pointer (some ⟨p2, 0, none⟩))), (6, VP.eq (.pointer (some ⟨p3, 0, none⟩))), (7, VP.eq (.pointer (some ⟨p4, 0, none⟩))), (8, VP.of (false)), (9, VP.eq (.pointer (some ⟨(ps1 7), 0, none⟩))), (10, VP.eq (.pointer (some ⟨(ps1 8), 0, none⟩))), (12, VP.eq (.pointer (some ⟨p5, 0, none⟩))), (13, VP.of (y4)), (14, VP.of (y7)), (15, VP.of (s2)), (16, VP.eq (.pointer (some ⟨p6, 0, none⟩))), (18, VP.of (y10.2)), (22, VP.of (q3.1)), (36, VP.of ([y2, y3, (default : T_cube_Cube)])), (37, VP.of ([y2, y3, (default : T_cube_Cube)].length : Int)), (38, VP.of (s1)), (39, VP.of (decide (s1 < ([y2, y3, (default : T_cube_Cube)].length : Int)))), (54, VP.of ((y4.length : Int) != (y7.length : Int))), (55, VP.of (y4)), (56, VP.of (y4.length : Int)), (57, VP.of (s2)), (58, VP.of (decide (s2 < (y4.length : Int)))), (74, VP.of ((!decide (y8 = lget y7 k3)) || (!decide ((lget y4 k2) = y9)))), (81, VP.of (y10.2)), (85, VP.of (y11)), (86, VP.of (y11.length : Int)), (87, VP.of (q3.2.1)), (88, VP.of (q3.2.2.1)), (97, VP.of (q3.2.2.2))]) q3) (fun q3 g3 => Sum.elim (fun q3 => [⟨some p7, .var (y10.1 : T_cube_Cube)⟩, ⟨some p6, .var (lget y4 k2 : T_cube_Cube)⟩, ⟨some p5, .var (lget [y2, y3, (default : T_cube_Cube)] k1 : T_cube_Cube)⟩, ⟨some (ps1 7), .var (y1 : T_cube_Cube)⟩, ⟨some (ps1 8), .var ({ f_Value := x2, f_Mask := x3 : T_cube_Cube } : T_cube_Cube)⟩, ⟨some p4, .var (x3 : Vector T_api_Value 4)⟩, ⟨some p3, .var (x2 : Vector T_api_Value 4)⟩, ⟨some p2, .var (x1 : Vector T_api_Value 4)⟩, ⟨some p1, .var (x0 : Vector T_api_Value 4)⟩]) (fun q3 => [⟨some p7, .var (y10.1 : T_cube_Cube)⟩, ⟨some p6, .var (lget y4 k2 : T_cube_Cube)⟩, ⟨some p5, .var (lget [y2, y3, (default : T_cube_Cube)] k1 : T_cube_Cube)⟩, ⟨some (ps1 7), .var (y1 : T_cube_Cube)⟩, ⟨some (ps1 8), .var ({ f_Value := x2, f_Mask := x3 : T_cube_Cube } : T_cube_Cube)⟩, ⟨some p4, .var (x3 : Vector T_api_Value 4)⟩, ⟨some p3, .var (x2 : Vector T_api_Value 4)⟩, ⟨some p2, .var (x1 : Vector T_api_Value 4)⟩, ⟨some p1, .var (x0 : Vector T_api_Value 4)⟩]) q3) () rfl (.same rfl (.same rfl (.same rfl (.same rfl (.same rfl (.same rfl (.same rfl (.same rfl (.same rfl (.same rfl (.same rfl (.same rfl (.same rfl (.same rfl (.same rfl (.same rfl (.same rfl (.same rfl (.same rfl (.same rfl (.same rfl (.same rfl (.same rfl (.same rfl (.same rfl (.same rfl (.same rfl (.same rfl (.same rfl (.same rfl (.same rfl .nil))))))))))))))))))))))))))))))) (fun s3 r h g3 => ?_) (fun g3 => ?_)
                · clear hl
                  refine Wp.seq ?_
                  refine Wp.reg ?_
                  refine Sq.v (r_lss (look_t rfl) (look_t rfl)) rfl rfl rfl ?_
                  refine Sq.nil ?_
                  refine To.next ?_
                  refine Wp.seq ?_
                  refine Wp.cond (look_t rfl) (fun hc => ?_) (fun hc => ?_)
                  · replace h := cond_t hc h
                    refine Wp.skip ?_
                    refine To.next ?_
                    refine Wp.seq ?_
                    refine Wp.block ?_
                    refine Wp.seq ?_
                    refine Wp.reg ?_
                    obtain ⟨k4, hk4, h⟩ := bind_some h
                    refine Sq.v (r_ias (k := k4) Try.underlying31 ty28 (look_t rfl) (look_t rfl) (idx_some hk4)) rfl rfl rfl ?_
                    refine Sq.v (r_loadp ty28 (look_t rfl)) rfl rfl rfl ?_
                    refine Sq.alloc zr28 rfl fun p8 => ?_
                    refine Sq.store (i := 0) (Lens.id T_cube_Cube) (v := (lget y11 k4 : T_cube_Cube)) (b' := (lget y11 k4 : T_cube_Cube)) ty28 (look_t rfl) (look_t rfl) rfl rfl rfl ?_
                    refine Sq.nil ?_
                    refine To.next ?_
                    refine Wp.seq ?_
                    refine Wp.reg ?_
                    refine Sq.v (r_load (i := 2) (Lens.id T_cube_Cube) (r := (lget y4 k2)) ty28 (look_t rfl) rfl rfl rfl) rfl rfl rfl ?_
                    refine Sq.v (r_load (i := 0) (Lens.id T_cube_Cube) (r := (lget y11 k4)) ty28 (look_t rfl) rfl rfl rfl) rfl rfl rfl ?_
                    obtain ⟨y12, hy12, h⟩ := bind_some h
                    refine Sq.v (r_call en18 (C_cube_Meet hy12) ⟨look_t rfl, look_t rfl, trivial⟩) rfl rfl rfl ?_
                    refine Sq.v (r_move (look_t rfl)) rfl rfl rfl ?_
                    refine Sq.v (r_ext (look_t rfl) rfl) rfl rfl rfl ?_
                    refine Sq.v (r_ext (look_t rfl) rfl) rfl rfl rfl ?_
                    refine Sq.alloc zr28 rfl fun p9 => ?_
                    refine Sq.store (i := 0) (Lens.id T_cube_Cube) (v := (y12.1 : T_cube_Cube)) (b' := (y12.1 : T_cube_Cube)) ty28 (look_t rfl) (look_t rfl) rfl rfl rfl ?_
                    refine Sq.v (r_asg (look_t rfl)) rfl rfl rfl ?_
                    refine Sq.nil ?_
                    refine To.next ?_
                    refine Wp.seq ?_
                    refine Wp.reg ?_
                    refine Sq.v (r_move (look_t rfl)) rfl rfl rfl ?_
                    refine Sq.nil ?_
                    refine To.next ?_
                    refine Wp.cond (look_t rfl) (fun hc => ?_) (fun hc => ?_)
                    · replace h := cond_t hc h
                      refine Wp.seq ?_
                      refine Wp.reg ?_
                      refine Sq.v (r_asg (look_bool false)) rfl rfl rfl ?_
                      refine Sq.nil ?_
                      refine To.next ?_
                      refine Wp.ret ?_
                      refine To.bret ?_
                      refine To.ret ?_
                      replace h := some_in h
                      subst h
                      exact To.leaveG () 2 rfl (by simp) rfl (.same rfl (.same rfl (.same rfl (.same rfl (.same rfl (.same rfl (.same rfl (.same rfl (.same rfl (.same rfl (.same rfl (.same rfl (.same rfl (.same rfl (.same rfl (.same rfl (.same rfl (.same rfl (.same rfl (.same rfl (.same rfl (.same rfl (.same rfl (.same rfl (.same rfl (.same rfl (.same rfl (.same rfl (.same rfl (.same rfl (.same rfl (.same rfl (.same rfl (.same rfl .nil))))))))))))))))))))))))))))))))))
                    · replace h := cond_f hc h
                      refine Wp.skip ?_
                      refine To.bnorm ?_
                      refine To.next ?_
                      refine Wp.reg ?_
                      refine Sq.v (r_add (look_t rfl) (look_int 1)) rfl rfl rfl ?_
                      refine Sq.v (r_move (look_t rfl)) rfl rfl rfl ?_
                      refine Sq.nil ?_
                      replace h := some_in h
                      subst h
                      exact To.roundG () 2 rfl (.same rfl (.same rfl (.same rfl (.same rfl (.same rfl (.same rfl (.same rfl (.same rfl (.same rfl (.same rfl (.same rfl (.same rfl (.same rfl (.same rfl (.same rfl (.same rfl (.same rfl (.same rfl (.same rfl (.same rfl (.same rfl (.same rfl (.same rfl (.same rfl (.same rfl (.same rfl (.same rfl (.same rfl (.same rfl (.same rfl (.same rfl .nil)))))))))))))))))))))))))))))))
                  · replace h := cond_f hc h
                    refine Wp.exit ?_
                    refine To.exit ?_
                    replace h := some_in h
                    subst h
                    exact To.leaveG () 0 rfl (by simp) rfl (.same rfl (.same rfl (.same rfl (.same rfl (.same rfl (.same rfl (.same rfl (.same rfl (.same rfl (.same rfl (.same rfl (.same rfl (.same rfl (.same rfl (.same rfl (.same rfl (.same rfl (.same rfl (.same rfl (.same rfl (.same rfl (.same rfl (.same rfl (.same rfl (.same rfl (.same rfl (.same rfl (.same rfl (.same rfl (.same rfl (.same rfl (.same rfl .nil))))))))))))))))))))))))))))))))
                · clear hl
                  rcases e3 with e3 | e3
                  · simp only [Sum.elim_inl] at h
                    refine To.bexit ?_
                    refine To.bnorm ?_
                    refine To.next ?_
                    refine Wp.reg ?_
                    refine Sq.v (r_add (look_t rfl) (look_int 1)) rfl rfl rfl ?_
                    refine Sq.v (r_move (look_t rfl)) rfl rfl rfl ?_
                    refine Sq.nil ?_
                    replace h := some_in h
                    subst h
                    exact To.roundG () 2 rfl (.same rfl (.same rfl (.same rfl (.same rfl (.same rfl (.same rfl (.same rfl (.same rfl (.same rfl (.same rfl (.same rfl (.same rfl (.same rfl (.same rfl (.same rfl (.same rfl (.same rfl (.same rfl (.same rfl (.same rfl (.same rfl (.same rfl .nil))))))))))))))))))))))
                  · simp only [Sum.elim_inr] at h
                    refine To.bret ?_
                    refine To.bret ?_
                    refine To.ret ?_
                    replace h := some_in h
                    subst h
                    exact To.leaveG () 2 rfl (by simp) rfl (.same rfl (.same rfl (.same rfl (.same rfl (.same rfl (.same rfl (.same rfl (.same rfl (.same rfl (.same rfl (.same rfl (.same rfl (.same rfl (.same rfl (.same rfl (.same rfl (.same rfl (.same rfl (.same rfl (.same rfl (.same rfl (.same rfl (.same rfl (.same rfl (.same rfl .nil)))))))))))))))))))))))))
          · replace h := cond_f hc h
            refine Wp.exit ?_
            refine To.exit ?_
            replace h := some_in h
            subst h
            exact To.leaveG () 0 rfl (by simp) rfl (.same rfl (.same rfl (.same rfl (.same rfl (.same rfl (.same rfl (.same rfl (.same rfl (.same rfl (.same rfl (.same rfl (.same rfl (.same rfl (.same rfl (.same rfl (.same rfl (.same rfl (.same rfl (.same rfl (.same rfl (.same rfl (.same rfl (.same rfl .nil)))))))))))))))))))))))
        · clear hl
          rcases e2 with e2 | e2
          · simp only [Sum.elim_inl] at h
            refine To.bexit ?_
            refine To.bnorm ?_
            refine To.next ?_
            refine Wp.reg ?_
            refine Sq.v (r_add (look_t rfl) (look_int 1)) rfl rfl rfl ?_
            refine Sq.v (r_move (look_t rfl)) rfl rfl rfl ?_
            refine Sq.nil ?_
            replace h := some_in h
            subst h
            exact To.roundG () 1 rfl (.same rfl (.same rfl (.same rfl (.same rfl (.same rfl (.same rfl (.same rfl (.same rfl (.same rfl (.same rfl (.same rfl (.same rfl (.same rfl (.same rfl .nil))))))))))))))
          · simp only [Sum.elim_inr] at h
            refine To.bret ?_
            refine To.bret ?_
            refine To.ret ?_
            replace h := some_in h
            subst h
            exact To.leaveG () 1 rfl (by simp) rfl (.same rfl (.same rfl (.same rfl (.same rfl (.same rfl (.same rfl (.same rfl (.same rfl (.same rfl (.same rfl (.same rfl (.same rfl (.same rfl (.same rfl (.same rfl (.same rfl (.same rfl (.same rfl .nil))))))))))))))))))
    · replace h := cond_f hc h
      refine Wp.exit ?_
      refine To.exit ?_
      replace h := some_in h
      subst h
      exact To.leaveG () 0 rfl (by simp) rfl (.same rfl (.same rfl (.same rfl (.same rfl (.same rfl (.same rfl (.same rfl (.same rfl (.same rfl (.same rfl (.same rfl (.same rfl (.same rfl (.same rfl (.same rfl .nil)))))))))))))))
  · clear hl
    rcases e1 with e1 | e1
    · simp only [Sum.elim_inl] at h
      refine To.bexit ?_
      refine To.next ?_
      refine Wp.seq ?_
      refine Wp.reg ?_
      obtain ⟨y13, hy13, h⟩ := bind_some h
      refine Sq.v (r_call en19 (C_law25_begun hy13) trivial) rfl rfl rfl ?_
      refine Sq.v (r_asg (look_t rfl)) rfl rfl rfl ?_
      refine Sq.nil ?_
      refine To.next ?_
      refine Wp.ret ?_
      replace h := some_in h
      subst h
      exact To.end1 rfl (rv_t rfl)
    · simp only [Sum.elim_inr] at h
      refine To.bret ?_
      refine To.ret ?_
      replace h := some_in h
      subst h
      exact To.end1 rfl (rv_t rfl)
end Go.Proofs.Ytabodolbdalimaa
