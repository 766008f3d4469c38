/-
  Printed by the decompiler (dec.py) out of the seat's translation. Each function meets its functional program. Conditions: none.
-/
import Derived.Test.YtabodolbdalimaaDc2
namespace Go.Proofs.Ytabodolbdalimaa
open Go Gv
set_option linter.unusedVariables false
set_option linter.unusedSimpArgs false
set_option maxRecDepth 100000
set_option maxHeartbeats 2000000 in
theorem C_ref01_Not {x0 : T_api_Value} {x1 : Int} {r : T_api_Value} (h : L_ref01_Not x0 x1 = some r) : Meets Try.prog 24 [VP.of (x0), VP.of (x1)] (VP.of (r)) := by
  unfold L_ref01_Not at h
  refine Meets.of Try.func24 rfl Try.ntmps24 rfl fun W A => ?_
  refine Wp.seq ?_
  refine Wp.reg ?_
  refine Sq.box (z := (x0 : T_api_Value)) (look_t rfl) rfl fun p1 => ?_
  refine Sq.alloc zr24 rfl fun p2 => ?_
  refine Sq.nil ?_
  refine To.next ?_
  refine Wp.seq ?_
  refine Wp.reg ?_
  refine Sq.v (r_load (i := 1) (Lens.id T_api_Value) (r := x0) ty24 (look_t rfl) rfl rfl rfl) rfl rfl rfl ?_
  obtain ⟨y1, hy1, h⟩ := bind_some h
  refine Sq.v (r_call en62 (C_ref01_Read hy1) ⟨look_t rfl, trivial⟩) rfl rfl rfl ?_
  refine Sq.alloc zr111 rfl fun p3 => ?_
  refine Sq.store (i := 0) (Lens.id (Vector Bool 128)) (v := (y1 : Vector Bool 128)) (b' := (y1 : Vector Bool 128)) ty111 (look_t rfl) (look_t rfl) rfl rfl rfl ?_
  refine Sq.nil ?_
  refine To.next ?_
  refine Wp.seq ?_
  refine Wp.seq ?_
  refine Wp.reg ?_
  refine Sq.v (r_move (look_int 0)) rfl rfl rfl ?_
  refine Sq.nil ?_
  refine To.next ?_
  refine Wp.block ?_
  obtain ⟨e1, hl, h⟩ := bind_some h
  refine Wp.loopG (σ := Int × (Vector Bool 128)) (ε := (Int × Bool × (Vector Bool 128))) (γ := Unit) (δ := Unit) hl (fun s1 g1 => [(0, VP.of (x0)), (1, VP.of (x1)), (2, VP.eq (.pointer (some ⟨p1, 0, none⟩))), (4, VP.eq (.pointer (some ⟨p2, 0, none⟩))), (5, VP.eq (.pointer (some ⟨p3, 0, none⟩))), (9, VP.of (s1.1))]) (fun s1 g1 => [⟨some p3, .var (s1.2 : Vector Bool 128)⟩, ⟨some p2, .var ((default : T_api_Value) : T_api_Value)⟩, ⟨some p1, .var (x0 : T_api_Value)⟩]) (fun q1 => Exit.exit 0) (fun q1 g1 => [(0, VP.of (x0)), (1, VP.of (x1)), (2, VP.eq (.pointer (some ⟨p1, 0, none⟩))), (4, VP.eq (.pointer (some ⟨p2, 0, none⟩))), (5, VP.eq (.pointer (some ⟨p3, 0, none⟩))), (9, VP.of (q1.1)), (10, VP.of (q1.2.1))]) (fun q1 g1 => [⟨some p3, .var (q1.2.2 : Vector Bool 128)⟩, ⟨some p2, .var ((default : T_api_Value) : T_api_Value)⟩, ⟨some p1, .var (x0 : T_api_Value)⟩]) () rfl (.same rfl (.same rfl (.same rfl (.same rfl (.same rfl (.same rfl .nil)))))) (fun s1 r h g1 => ?_) (fun g1 => ?_)
  · clear hl
    refine Wp.seq ?_
    refine Wp.reg ?_
    refine Sq.v (r_lss (look_t rfl) (look_int 128)) rfl rfl rfl ?_
    refine Sq.nil ?_
    refine To.next ?_
    refine Wp.seq ?_
    refine Wp.cond (look_t rfl) (fun hc => ?_) (fun hc => ?_)
    · replace h := cond_t hc h
      refine Wp.skip ?_
      refine To.next ?_
      refine Wp.seq ?_
      refine Wp.block ?_
      refine Wp.seq ?_
      refine Wp.reg ?_
      refine Sq.v (r_move (look_t rfl)) rfl rfl rfl ?_
      refine Sq.v (r_asg (look_t rfl)) rfl rfl rfl ?_
      refine Sq.nil ?_
      refine To.next ?_
      refine Wp.reg ?_
      refine Sq.v (r_move (look_t rfl)) rfl rfl rfl ?_
      refine Sq.v (r_move (look_t rfl)) rfl rfl rfl ?_
      refine Sq.v (r_move (look_t rfl)) rfl rfl rfl ?_
      obtain ⟨y2, hy2, h⟩ := bind_some h
      refine Sq.v (r_call en64 (C_ref01_clamp hy2) ⟨look_t rfl, trivial⟩) rfl rfl rfl ?_
      refine Sq.v (r_lss (look_t rfl) (look_t rfl)) rfl rfl rfl ?_
      refine Sq.v (r_move (look_t rfl)) rfl rfl rfl ?_
      refine Sq.g (fun hb => r_move (look_t rfl)) rfl rfl rfl rfl rfl ?_
      obtain ⟨k1, hk1, h⟩ := bind_some h
      refine Sq.g (fun hb => r_ia (k := k1) ar111 (look_t rfl) (look_tc rfl hb) (idx_some (condM_some hk1 hb))) rfl rfl rfl rfl rfl ?_
      refine Sq.g (fun hb => r_load (i := 0) ((Lens.id (Vector Bool 128)).comp (Lens.idx (α := Bool) 128 k1 (idx_some (condM_some hk1 hb)).1)) (r := vget s1.2 k1) ty4 (look_tc rfl hb) rfl rfl rfl) rfl rfl rfl rfl rfl ?_
      refine Sq.g (fun hb => r_not (look_tc rfl hb)) rfl rfl rfl rfl rfl ?_
      refine Sq.v (r_and (look_t rfl) (look_t rfl) (fun h => h)) rfl rfl rfl ?_
      obtain ⟨k2, hk2, h⟩ := bind_some h
      refine Sq.v (r_ia (k := k2) ar111 (look_t rfl) (look_t rfl) (idx_some hk2)) rfl rfl rfl ?_
      refine Sq.store (i := 0) ((Lens.id (Vector Bool 128)).comp (Lens.idx (α := Bool) 128 k2 (idx_some hk2).1)) (v := ((decide (s1.1 < y2)) && (!(vget s1.2 k1)) : Bool)) (b' := (vset s1.2 k2 ((decide (s1.1 < y2)) && (!(vget s1.2 k1))) : Vector Bool 128)) ty4 (look_t rfl) (look_t rfl) rfl rfl rfl ?_
      refine Sq.nil ?_
      refine To.bnorm ?_
      refine To.next ?_
      refine Wp.reg ?_
      refine Sq.v (r_add (look_t rfl) (look_int 1)) rfl rfl rfl ?_
      refine Sq.v (r_move (look_t rfl)) rfl rfl rfl ?_
      refine Sq.nil ?_
      replace h := some_in h
      subst h
      exact To.roundG () 0 rfl (.same rfl (.same rfl (.same rfl (.same rfl (.same rfl (.same rfl .nil))))))
    · replace h := cond_f hc h
      refine Wp.exit ?_
      refine To.exit ?_
      replace h := some_in h
      subst h
      exact To.leaveG () 0 rfl (by simp) rfl (.same rfl (.same rfl (.same rfl (.same rfl (.same rfl (.same rfl (.same rfl .nil)))))))
  · clear hl
    refine To.bexit ?_
    refine To.next ?_
    refine Wp.seq ?_
    refine Wp.reg ?_
    refine Sq.v (r_load (i := 0) (Lens.id (Vector Bool 128)) (r := e1.2.2) ty111 (look_t rfl) rfl rfl rfl) rfl rfl rfl ?_
    obtain ⟨y3, hy3, h⟩ := bind_some h
    refine Sq.v (r_call en63 (C_ref01_Make hy3) ⟨look_t rfl, trivial⟩) rfl rfl rfl ?_
    refine Sq.store (i := 1) (Lens.id T_api_Value) (v := (y3 : T_api_Value)) (b' := (y3 : T_api_Value)) ty24 (look_t rfl) (look_t rfl) rfl rfl rfl ?_
    refine Sq.nil ?_
    refine To.next ?_
    refine Wp.ret ?_
    replace h := some_in h
    subst h
    exact To.end1 rfl (rv_c (i := 1) ty24 rfl rfl)
set_option maxHeartbeats 2000000 in
theorem C_ref01_Or {x0 : T_api_Value} {x1 : T_api_Value} {r : T_api_Value} (h : L_ref01_Or x0 x1 = some r) : Meets Try.prog 22 [VP.of (x0), VP.of (x1)] (VP.of (r)) := by
  unfold L_ref01_Or at h
  refine Meets.of Try.func22 rfl Try.ntmps22 rfl fun W A => ?_
  refine Wp.seq ?_
  refine Wp.reg ?_
  refine Sq.box (z := (x0 : T_api_Value)) (look_t rfl) rfl fun p1 => ?_
  refine Sq.box (z := (x1 : T_api_Value)) (look_t rfl) rfl fun p2 => ?_
  refine Sq.alloc zr24 rfl fun p3 => ?_
  refine Sq.nil ?_
  refine To.next ?_
  refine Wp.seq ?_
  obtain ⟨y1, hy1, h⟩ := bind_some h
  obtain ⟨y2, hy2, h⟩ := bind_some h
  refine Wp.draw mixed 6 [some 8, some 9, some 10, some 11, some 5, some 6] [[], [0], [], [2], [], []] [.val (VP.of (x0)), .val (VP.of (y1)), .val (VP.of (x1)), .val (VP.of (y2)), .new (.var (default : Vector Bool 128)), .new (.var (default : Vector Bool 128))] [false, false, false, false, false, false] (by kernel_rfl) rfl rfl rfl (fun ps1 => ⟨fun L' hL => HO.v (r_load (i := 2) (Lens.id T_api_Value) (r := x0) ty24 (look_t rfl) (hL _ _ rfl rfl) rfl rfl) rfl, fun L' hL => HO.v (r_call en62 (C_ref01_Read hy1) ⟨look_t rfl, trivial⟩) rfl, fun L' hL => HO.v (r_load (i := 1) (Lens.id T_api_Value) (r := x1) ty24 (look_t rfl) (hL _ _ rfl rfl) rfl rfl) rfl, fun L' hL => HO.v (r_call en62 (C_ref01_Read hy2) ⟨look_t rfl, trivial⟩) rfl, ao_alloc zr111, ao_alloc zr111, trivial⟩) fun ps1 => ?_
  refine Sq.store (i := 0) (Lens.id (Vector Bool 128)) (v := (y1 : Vector Bool 128)) (b' := (y1 : Vector Bool 128)) ty111 (look_t rfl) (look_t rfl) rfl rfl rfl ?_
  refine Sq.store (i := 1) (Lens.id (Vector Bool 128)) (v := (y2 : Vector Bool 128)) (b' := (y2 : Vector Bool 128)) ty111 (look_t rfl) (look_t rfl) rfl rfl rfl ?_
  refine Sq.nil ?_
  refine To.next ?_
  refine Wp.seq ?_
  refine Wp.seq ?_
  refine Wp.reg ?_
  refine Sq.v (r_move (look_int 0)) rfl rfl rfl ?_
  refine Sq.nil ?_
  refine To.next ?_
  refine Wp.block ?_
  obtain ⟨e1, hl, h⟩ := bind_some h
  refine Wp.loopG (σ := Int × (Vector Bool 128)) (ε := (Int × Bool × (Vector Bool 128))) (γ := Unit) (δ := Unit) hl (fun s1 g1 => [(0, VP.of (x0)), (1, VP.of (x1)), (2, VP.eq (.pointer (some ⟨p1, 0, none⟩))), (3, VP.eq (.pointer (some ⟨p2, 0, none⟩))), (4, VP.eq (.pointer (some ⟨p3, 0, none⟩))), (5, VP.eq (.pointer (some ⟨(ps1 4), 0, none⟩))), (6, VP.eq (.pointer (some ⟨(ps1 5), 0, none⟩))), (12, VP.of (s1.1))]) (fun s1 g1 => [⟨some (ps1 4), .var (s1.2 : Vector Bool 128)⟩, ⟨some (ps1 5), .var (y2 : Vector Bool 128)⟩, ⟨some p3, .var ((default : T_api_Value) : T_api_Value)⟩, ⟨some p2, .var (x1 : T_api_Value)⟩, ⟨some p1, .var (x0 : T_api_Value)⟩]) (fun q1 => Exit.exit 0) (fun q1 g1 => [(0, VP.of (x0)), (1, VP.of (x1)), (2, VP.eq (.pointer (some ⟨p1, 0, none⟩))), (3, VP.eq (.pointer (some ⟨p2, 0, none⟩))), (4, VP.eq (.pointer (some ⟨p3, 0, none⟩))), (5, VP.eq (.pointer (some ⟨(ps1 4), 0, none⟩))), (6, VP.eq (.pointer (some ⟨(ps1 5), 0, none⟩))), (12, VP.of (q1.1)), (13, VP.of (q1.2.1))]) (fun q1 g1 => [⟨some (ps1 4), .var (q1.2.2 : Vector Bool 128)⟩, ⟨some (ps1 5), .var (y2 : Vector Bool 128)⟩, ⟨some p3, .var ((default : T_api_Value) : T_api_Value)⟩, ⟨some p2, .var (x1 : T_api_Value)⟩, ⟨some p1, .var (x0 : T_api_Value)⟩]) () rfl (.same rfl (.same rfl (.same rfl (.same rfl (.same rfl (.same rfl (.same rfl (.same rfl .nil)))))))) (fun s1 r h g1 => ?_) (fun g1 => ?_)
  · clear hl
    refine Wp.seq ?_
    refine Wp.reg ?_
    refine Sq.v (r_lss (look_t rfl) (look_int 128)) rfl rfl rfl ?_
    refine Sq.nil ?_
    refine To.next ?_
    refine Wp.seq ?_
    refine Wp.cond (look_t rfl) (fun hc => ?_) (fun hc => ?_)
    · replace h := cond_t hc h
      refine Wp.skip ?_
      refine To.next ?_
      refine Wp.seq ?_
      refine Wp.block ?_
      refine Wp.seq ?_
      refine Wp.reg ?_
      refine Sq.v (r_move (look_t rfl)) rfl rfl rfl ?_
      refine Sq.v (r_asg (look_t rfl)) rfl rfl rfl ?_
      refine Sq.nil ?_
      refine To.next ?_
      refine Wp.reg ?_
      refine Sq.v (r_move (look_t rfl)) rfl rfl rfl ?_
      refine Sq.v (r_move (look_t rfl)) rfl rfl rfl ?_
      obtain ⟨k1, hk1, h⟩ := bind_some h
      refine Sq.v (r_ia (k := k1) ar111 (look_t rfl) (look_t rfl) (idx_some hk1)) rfl rfl rfl ?_
      refine Sq.v (r_load (i := 0) ((Lens.id (Vector Bool 128)).comp (Lens.idx (α := Bool) 128 k1 (idx_some hk1).1)) (r := vget s1.2 k1) ty4 (look_t rfl) rfl rfl rfl) rfl rfl rfl ?_
      refine Sq.v (r_move (look_t rfl)) rfl rfl rfl ?_
      refine Sq.g (fun hb => r_move (look_t rfl)) rfl rfl rfl rfl rfl ?_
      obtain ⟨k2, hk2, h⟩ := bind_some h
      refine Sq.g (fun hb => r_ia (k := k2) ar111 (look_t rfl) (look_tc rfl hb) (idx_some (condM_some hk2 hb))) rfl rfl rfl rfl rfl ?_
      refine Sq.g (fun hb => r_load (i := 1) ((Lens.id (Vector Bool 128)).comp (Lens.idx (α := Bool) 128 k2 (idx_some (condM_some hk2 hb)).1)) (r := vget y2 k2) ty4 (look_tc rfl hb) rfl rfl rfl) rfl rfl rfl rfl rfl ?_
      refine Sq.v (r_or (look_t rfl) (look_t rfl) (fun h => h)) rfl rfl rfl ?_
      obtain ⟨k3, hk3, h⟩ := bind_some h
      refine Sq.v (r_ia (k := k3) ar111 (look_t rfl) (look_t rfl) (idx_some hk3)) rfl rfl rfl ?_
      refine Sq.store (i := 0) ((Lens.id (Vector Bool 128)).comp (Lens.idx (α := Bool) 128 k3 (idx_some hk3).1)) (v := ((vget s1.2 k1) || (vget y2 k2) : Bool)) (b' := (vset s1.2 k3 ((vget s1.2 k1) || (vget y2 k2)) : Vector Bool 128)) ty4 (look_t rfl) (look_t rfl) rfl rfl rfl ?_
      refine Sq.nil ?_
      refine To.bnorm ?_
      refine To.next ?_
      refine Wp.reg ?_
      refine Sq.v (r_add (look_t rfl) (look_int 1)) rfl rfl rfl ?_
      refine Sq.v (r_move (look_t rfl)) rfl rfl rfl ?_
      refine Sq.nil ?_
      replace h := some_in h
      subst h
      exact To.roundG () 0 rfl (.same rfl (.same rfl (.same rfl (.same rfl (.same rfl (.same rfl (.same rfl (.same rfl .nil))))))))
    · replace h := cond_f hc h
      refine Wp.exit ?_
      refine To.exit ?_
      replace h := some_in h
      subst h
      exact To.leaveG () 0 rfl (by simp) rfl (.same rfl (.same rfl (.same rfl (.same rfl (.same rfl (.same rfl (.same rfl (.same rfl (.same rfl .nil)))))))))
  · clear hl
    refine To.bexit ?_
    refine To.next ?_
    refine Wp.seq ?_
    refine Wp.reg ?_
    refine Sq.v (r_load (i := 0) (Lens.id (Vector Bool 128)) (r := e1.2.2) ty111 (look_t rfl) rfl rfl rfl) rfl rfl rfl ?_
    obtain ⟨y3, hy3, h⟩ := bind_some h
    refine Sq.v (r_call en63 (C_ref01_Make hy3) ⟨look_t rfl, trivial⟩) rfl rfl rfl ?_
    refine Sq.store (i := 2) (Lens.id T_api_Value) (v := (y3 : T_api_Value)) (b' := (y3 : T_api_Value)) ty24 (look_t rfl) (look_t rfl) rfl rfl rfl ?_
    refine Sq.nil ?_
    refine To.next ?_
    refine Wp.ret ?_
    replace h := some_in h
    subst h
    exact To.end1 rfl (rv_c (i := 2) ty24 rfl rfl)
set_option maxHeartbeats 2000000 in
theorem C_cube_Contains {x0 : T_cube_Cube} {x1 : Vector T_api_Value 4} {r : Bool} (h : L_cube_Contains x0 x1 = some r) : Meets Try.prog 25 [VP.of (x0), VP.of (x1)] (VP.of (r)) := by
  unfold L_cube_Contains at h
  refine Meets.of Try.func25 rfl Try.ntmps25 rfl fun W A => ?_
  refine Wp.seq ?_
  refine Wp.reg ?_
  refine Sq.box (z := (x0 : T_cube_Cube)) (look_t rfl) rfl fun p1 => ?_
  refine Sq.box (z := (x1 : Vector T_api_Value 4)) (look_t rfl) rfl fun p2 => ?_
  refine Sq.v (r_asg (look_bool false)) rfl rfl rfl ?_
  refine Sq.nil ?_
  refine To.next ?_
  refine Wp.seq ?_
  obtain ⟨y1, hy1, h⟩ := bind_some h
  refine Wp.draw mixed 7 [some 5, some 6, some 7, some 8, some 9, some 10, some 11] [[], [], [1], [0, 2], [], [4], [3, 5]] [.val (VP.of (x1)), .val (VP.eq (.pointer (some ⟨p1, 0 + 8, none⟩))), .val (VP.of (x0.f_Mask)), .val (VP.of (y1)), .val (VP.eq (.pointer (some ⟨p1, 0 + 0, none⟩))), .val (VP.of (x0.f_Value)), .val (VP.of (decide (y1 = x0.f_Value)))] [false, false, false, false, false, false, false] (by kernel_rfl) rfl rfl rfl (fun ps1 => ⟨fun L' hL => HO.v (r_load (i := 0) (Lens.id (Vector T_api_Value 4)) (r := x1) ty26 (look_t rfl) (hL _ _ rfl rfl) rfl rfl) rfl, fun L' hL => HO.v (r_fa fd28_1 (look_t rfl)) rfl, fun L' hL => HO.v (r_load (i := 1) ((Lens.id T_cube_Cube).comp le_T_cube_Cube_Mask) (r := x0.f_Mask) ty26 (look_t rfl) (hL _ _ rfl rfl) rfl rfl) rfl, fun L' hL => HO.v (r_call en52 (C_cube_combined hy1) ⟨look_t rfl, look_t rfl, look_fn2 en56 (fun _ _ _ => C_value_And), trivial⟩) rfl, fun L' hL => HO.v (r_fa fd28_0 (look_t rfl)) rfl, fun L' hL => HO.v (r_load (i := 1) ((Lens.id T_cube_Cube).comp le_T_cube_Cube_Value) (r := x0.f_Value) ty26 (look_t rfl) (hL _ _ rfl rfl) rfl rfl) rfl, fun L' hL => HO.v (r_eqA eqv26 rfl eqg26 rfl (look_t rfl) (look_t rfl)) rfl, trivial⟩) fun ps1 => ?_
  refine Sq.v (r_asg (look_t rfl)) rfl rfl rfl ?_
  refine Sq.nil ?_
  refine To.next ?_
  refine Wp.ret ?_
  replace h := some_in h
  subst h
  exact To.end1 rfl (rv_t rfl)
set_option maxHeartbeats 2000000 in
theorem C_law25_CubeParts {x0 : Vector T_api_Value 4} {x1 : Vector T_api_Value 4} {x2 : Vector T_api_Value 4} {x3 : Vector T_api_Value 4} {x4 : Vector T_api_Value 4} {r : Bool} (h : L_law25_CubeParts x0 x1 x2 x3 x4 = some r) : Meets Try.prog 5 [VP.of (x0), VP.of (x1), VP.of (x2), VP.of (x3), VP.of (x4)] (VP.of (r)) := by
  unfold L_law25_CubeParts at h
  refine Meets.of Try.func5 rfl Try.ntmps5 rfl fun W A => ?_
  refine Wp.seq ?_
  refine Wp.reg ?_
  refine Sq.box (z := (x0 : Vector T_api_Value 4)) (look_t rfl) rfl fun p1 => ?_
  refine Sq.box (z := (x1 : Vector T_api_Value 4)) (look_t rfl) rfl fun p2 => ?_
  refine Sq.box (z := (x2 : Vector T_api_Value 4)) (look_t rfl) rfl fun p3 => ?_
  refine Sq.box (z := (x3 : Vector T_api_Value 4)) (look_t rfl) rfl fun p4 => ?_
  refine Sq.box (z := (x4 : Vector T_api_Value 4)) (look_t rfl) rfl fun p5 => ?_
  refine Sq.v (r_asg (look_bool false)) rfl rfl rfl ?_
  refine Sq.nil ?_
  refine To.next ?_
  refine Wp.seq ?_
  refine Wp.reg ?_
  refine Sq.v (r_load (i := 4) (Lens.id (Vector T_api_Value 4)) (r := x0) ty26 (look_t rfl) rfl rfl rfl) rfl rfl rfl ?_
  refine Sq.v (r_load (i := 3) (Lens.id (Vector T_api_Value 4)) (r := x1) ty26 (look_t rfl) rfl rfl rfl) rfl rfl rfl ?_
  refine Sq.v (r_build (b := { f_Value := x0, f_Mask := x1 : T_cube_Cube }) rfl bu28 zr28 (.cons le_T_cube_Cube_Value rfl (look_t rfl) rfl (.cons le_T_cube_Cube_Mask rfl (look_t rfl) rfl (.nil)))) rfl rfl rfl ?_
  obtain ⟨y1, hy1, h⟩ := bind_some h
  refine Sq.v (r_call en13 (C_law25_canonical hy1) ⟨look_t rfl, trivial⟩) rfl rfl rfl ?_
  refine Sq.alloc zr28 rfl fun p6 => ?_
  refine Sq.store (i := 0) (Lens.id T_cube_Cube) (v := (y1 : T_cube_Cube)) (b' := (y1 : T_cube_Cube)) ty28 (look_t rfl) (look_t rfl) rfl rfl rfl ?_
  refine Sq.nil ?_
  refine To.next ?_
  refine Wp.seq ?_
  refine Wp.reg ?_
  refine Sq.v (r_load (i := 0) (Lens.id T_cube_Cube) (r := y1) ty28 (look_t rfl) rfl rfl rfl) rfl rfl rfl ?_
  refine Sq.v (r_load (i := 3) (Lens.id (Vector T_api_Value 4)) (r := x2) ty26 (look_t rfl) rfl rfl rfl) rfl rfl rfl ?_
  refine Sq.v (r_load (i := 2) (Lens.id (Vector T_api_Value 4)) (r := x3) ty26 (look_t rfl) rfl rfl rfl) rfl rfl rfl ?_
  refine Sq.v (r_build (b := { f_Value := x2, f_Mask := x3 : T_cube_Cube }) rfl bu28 zr28 (.cons le_T_cube_Cube_Value rfl (look_t rfl) rfl (.cons le_T_cube_Cube_Mask rfl (look_t rfl) rfl (.nil)))) rfl rfl rfl ?_
  obtain ⟨y2, hy2, h⟩ := bind_some h
  refine Sq.v (r_call en14 (C_law25_near hy2) ⟨look_t rfl, look_t rfl, trivial⟩) rfl rfl rfl ?_
  refine Sq.alloc zr28 rfl fun p7 => ?_
  refine Sq.store (i := 0) (Lens.id T_cube_Cube) (v := (y2 : T_cube_Cube)) (b' := (y2 : T_cube_Cube)) ty28 (look_t rfl) (look_t rfl) rfl rfl rfl ?_
  refine Sq.nil ?_
  refine To.next ?_
  refine Wp.seq ?_
  refine Wp.seq ?_
  refine Wp.reg ?_
  refine Sq.v (r_bsl (r := [false, true]) Try.underlying46 ty4 zr4 rfl rfl (.cons (by simp) (look_bool false) (.cons (by simp) (look_bool true) (.nil)))) rfl rfl rfl ?_
  refine Sq.v (r_len Try.underlying46 (look_t rfl)) rfl rfl rfl ?_
  refine Sq.v (r_move (look_int 0)) rfl rfl rfl ?_
  refine Sq.nil ?_
  refine To.next ?_
  refine Wp.block ?_
  obtain ⟨e1, hl, h⟩ := bind_some h
  refine Wp.loopG (σ := Int) (ε := (Int × Bool) ⊕ (Bool × Int × Bool × Int × Int × Bool × Int × Bool × (List T_cube_Cube) × Int × Int × Bool × Bool × Bool × Bool)) (γ := Unit) (δ := Unit) hl (fun s1 g1 => [(0, VP.of (x0)), (1, VP.of (x1)), (2, VP.of (x2)), (3, VP.of (x3)), (4, VP.of (x4)), (5, VP.eq (.pointer (some ⟨p1, 0, none⟩))), (6, VP.eq (.pointer (some ⟨p2, 0, none⟩))), (7, VP.eq (.pointer (some ⟨p3, 0, none⟩))), (8, VP.eq (.pointer (some ⟨p4, 0, none⟩))), (9, VP.eq (.pointer (some ⟨p5, 0, none⟩))), (10, VP.of (false)), (11, VP.eq (.pointer (some ⟨p6, 0, none⟩))), (12, VP.eq (.pointer (some ⟨p7, 0, none⟩))), (32, VP.of ([false, true])), (33, VP.of ([false, true].length : Int)), (34, VP.of (s1))]) (fun s1 g1 => [⟨some p7, .var (y2 : T_cube_Cube)⟩, ⟨some p6, .var (y1 : T_cube_Cube)⟩, ⟨some p5, .var (x4 : Vector T_api_Value 4)⟩, ⟨some p4, .var (x3 : Vector T_api_Value 4)⟩, ⟨some p3, .var (x2 : Vector T_api_Value 4)⟩, ⟨some p2, .var (x1 : Vector T_api_Value 4)⟩, ⟨some p1, .var (x0 : Vector T_api_Value 4)⟩]) (fun q1 => Sum.elim (fun q1 => Exit.exit 0) (fun q1 => Exit.ret) q1) (fun q1 g1 => Sum.elim (fun q1 => [(0, VP.of (x0)), (1, VP.of (x1)), (2, VP.of (x2)), (3, VP.of (x3)), (4, VP.of (x4)), (5, VP.eq (.pointer (some ⟨p1, 0, none⟩))), (6, VP.eq (.pointer (some ⟨p2, 0, none⟩))), (7, VP.eq (.pointer (some ⟨p3, 0, none⟩))), (8, VP.eq (.pointer (some ⟨p4, 0, none⟩))), (9, VP.eq (.pointer (some ⟨p5, 0, none⟩))), (10, VP.of (false)), (11, VP.eq (.pointer (some ⟨p6, 0, none⟩))), (12, VP.eq (.pointer (some ⟨p7, 0, none⟩))), (32, VP.of ([false, true])), (33, VP.of ([false, true].length : Int)), (34, VP.of (q1.1)), (35, VP.of (q1.2))]) (fun q1 => [(0, VP.of (x0)), (1, VP.of (x1)), (2, VP.of (x2)), (3, VP.of (x3)), (4, VP.of (x4)), (5, VP.eq (.pointer (some ⟨p1, 0, none⟩))), (6, VP.eq (.pointer (some ⟨p2, 0, none⟩))), (7, VP.eq (.pointer (some ⟨p3, 0, none⟩))), (8, VP.eq (.pointer (some ⟨p4, 0, none⟩))), (9, VP.eq (.pointer (some ⟨p5, 0, none⟩))), (10, VP.of (false)), (11, VP.eq (.pointer (some ⟨p6, 0, none⟩))), (12, VP.eq (.pointer (some ⟨p7, 0, none⟩))), (14, VP.of (q1.1)), (17, VP.of (q1.2.1)), (21, VP.of (q1.2.2.1)), (22, VP.of (q1.2.2.2.1)), (32, VP.of ([false, true])), (33, VP.of ([false, true].length : Int)), (34, VP.of (q1.2.2.2.2.1)), (35, VP.of (q1.2.2.2.2.2.1)), (39, VP.of (q1.2.2.2.2.2.2.1)), (40, VP.of (q1.2.2.2.2.2.2.2.1)), (62, VP.of (q1.2.2.2.2.2.2.2.2.1)), (63, VP.of (q1.2.2.2.2.2.2.2.2.2.1)), (64, VP.of (q1.2.2.2.2.2.2.2.2.2.2.1)), (65, VP.of (q1.2.2.2.2.2.2.2.2.2.2.2.1)), (85, VP.of (q1.2.2.2.2.2.2.2.2.2.2.2.2.1)), (90, VP.of (q1.2.2.2.2.2.2.2.2.2.2.2.2.2.1)), (100, VP.of (q1.2.2.2.2.2.2.2.2.2.2.2.2.2.2))]) q1) (fun q1 g1 => Sum.elim (fun q1 => [⟨some p7, .var (y2 : T_cube_Cube)⟩, ⟨some p6, .var (y1 : T_cube_Cube)⟩, ⟨some p5, .var (x4 : Vector T_api_Value 4)⟩, ⟨some p4, .var (x3 : Vector T_api_Value 4)⟩, ⟨some p3, .var (x2 : Vector T_api_Value 4)⟩, ⟨some p2, .var (x1 : Vector T_api_Value 4)⟩, ⟨some p1, .var (x0 : Vector T_api_Value 4)⟩]) (fun q1 => [⟨some p7, .var (y2 : T_cube_Cube)⟩, ⟨some p6, .var (y1 : T_cube_Cube)⟩, ⟨some p5, .var (x4 : Vector T_api_Value 4)⟩, ⟨some p4, .var (x3 : Vector T_api_Value 4)⟩, ⟨some p3, .var (x2 : Vector T_api_Value 4)⟩, ⟨some p2, .var (x1 : Vector T_api_Value 4)⟩, ⟨some p1, .var (x0 : Vector T_api_Value 4)⟩]) q1) () rfl (.same rfl (.same rfl (.same rfl (.same rfl (.same rfl (.same rfl (.same rfl (.same rfl (.same rfl (.same rfl (.same rfl (.same rfl (.same rfl (.same rfl (.same rfl (.same rfl .nil)))))))))))))))) (fun s1 r h g1 => ?_) (fun g1 => ?_)
  · clear hl
    refine Wp.seq ?_
    refine Wp.reg ?_
    refine Sq.v (r_lss (look_t rfl) (look_t rfl)) rfl rfl rfl ?_
    refine Sq.nil ?_
    refine To.next ?_
    refine Wp.seq ?_
    refine Wp.cond (look_t rfl) (fun hc => ?_) (fun hc => ?_)
    · replace h := cond_t hc h
      refine Wp.skip ?_
      refine To.next ?_
      refine Wp.seq ?_
      refine Wp.block ?_
      refine Wp.seq ?_
      refine Wp.reg ?_
      obtain ⟨k1, hk1, h⟩ := bind_some h
      refine Sq.v (r_ias (k := k1) Try.underlying46 ty4 (look_t rfl) (look_t rfl) (idx_some hk1)) rfl rfl rfl ?_
      refine Sq.v (r_loadp ty4 (look_t rfl)) rfl rfl rfl ?_
      refine Sq.v (r_asg (look_t rfl)) rfl rfl rfl ?_
      refine Sq.nil ?_
      refine To.next ?_
      refine Wp.seq ?_
      refine Wp.reg ?_
      refine Sq.v (r_load (i := 2) (Lens.id (Vector T_api_Value 4)) (r := x4) ty26 (look_t rfl) rfl rfl rfl) rfl rfl rfl ?_
      refine Sq.alloc zr26 rfl fun p8 => ?_
      refine Sq.store (i := 0) (Lens.id (Vector T_api_Value 4)) (v := (x4 : Vector T_api_Value 4)) (b' := (x4 : Vector T_api_Value 4)) ty26 (look_t rfl) (look_t rfl) rfl rfl rfl ?_
      refine Sq.nil ?_
      refine To.next ?_
      refine Wp.seq ?_
      refine Wp.seq ?_
      refine Wp.reg ?_
      refine Sq.v (r_move (look_int 0)) rfl rfl rfl ?_
      refine Sq.nil ?_
      refine To.next ?_
      refine Wp.block ?_
      obtain ⟨e2, hl, h⟩ := bind_some h
      refine Wp.loopG (σ := Int × (Vector T_api_Value 4)) (ε := (Int × Bool × (Vector T_api_Value 4))) (γ := Unit) (δ := Unit) hl (fun s2 g2 => [(0, VP.of (x0)), (1, VP.of (x1)), (2, VP.of (x2)), (3, VP.of (x3)), (4, VP.of (x4)), (5, VP.eq (.pointer (some ⟨p1, 0, none⟩))), (6, VP.eq (.pointer (some ⟨p2, 0, none⟩))), (7, VP.eq (.pointer (some ⟨p3, 0, none⟩))), (8, VP.eq (.pointer (some ⟨p4, 0, none⟩))), (9, VP.eq (.pointer (some ⟨p5, 0, none⟩))), (10, VP.of (false)), (11, VP.eq (.pointer (some ⟨p6, 0, none⟩))), (12, VP.eq (.pointer (some ⟨p7, 0, none⟩))), (14, VP.of (lget [false, true] k1)), (15, VP.eq (.pointer (some ⟨p8, 0, none⟩))), (32, VP.of ([false, true])), (33, VP.of ([false, true].length : Int)), (34, VP.of (s1)), (35, VP.of (decide (s1 < ([false, true].length : Int)))), (39, VP.of (s2.1))]) (fun s2 g2 => [⟨some p8, .var (s2.2 : Vector T_api_Value 4)⟩, ⟨some p7, .var (y2 : T_cube_Cube)⟩, ⟨some p6, .var (y1 : T_cube_Cube)⟩, ⟨some p5, .var (x4 : Vector T_api_Value 4)⟩, ⟨some p4, .var (x3 : Vector T_api_Value 4)⟩, ⟨some p3, .var (x2 : Vector T_api_Value 4)⟩, ⟨some p2, .var (x1 : Vector T_api_Value 4)⟩, ⟨some p1, .var (x0 : Vector T_api_Value 4)⟩]) (fun q2 => Exit.exit 2) (fun q2 g2 => [(0, VP.of (x0)), (1, VP.of (x1)), (2, VP.of (x2)), (3, VP.of (x3)), (4, VP.of (x4)), (5, VP.eq (.pointer (some ⟨p1, 0, none⟩))), (6, VP.eq (.pointer (some ⟨p2, 0, none⟩))), (7, VP.eq (.pointer (some ⟨p3, 0, none⟩))), (8, VP.eq (.pointer (some ⟨p4, 0, none⟩))), (9, VP.eq (.pointer (some ⟨p5, 0, none⟩))), (10, VP.of (false)), (11, VP.eq (.pointer (some ⟨p6, 0, none⟩))), (12, VP.eq (.pointer (some ⟨p7, 0, none⟩))), (14, VP.of (lget [false, true] k1)), (15, VP.eq (.pointer (some ⟨p8, 0, none⟩))), (32, VP.of ([false, true])), (33, VP.of ([false, true].length : Int)), (34, VP.of (s1)), (35, VP.of (decide (s1 < ([false, true].length : Int)))), (39, VP.of (q2.1)), (40, VP.of (q2.2.1))]) (fun q2 g2 => [⟨some p8, .var (q2.2.2 : Vector T_api_Value 4)⟩, ⟨some p7, .var (y2 : T_cube_Cube)⟩, ⟨some p6, .var (y1 : T_cube_Cube)⟩, ⟨some p5, .var (x4 : Vector T_api_Value 4)⟩, ⟨some p4, .var (x3 : Vector T_api_Value 4)⟩, ⟨some p3, .var (x2 : Vector T_api_Value 4)⟩, ⟨some p2, .var (x1 : Vector T_api_Value 4)⟩, ⟨some p1, .var (x0 : Vector T_api_Value 4)⟩]) () rfl (.same rfl (.same rfl (.same rfl (.same rfl (.same rfl (.same rfl (.same rfl (.same rfl (.same rfl (.same rfl (.same rfl (.same rfl (.same rfl (.same rfl (.same rfl (.same rfl (.same rfl (.same rfl (.same rfl (.same rfl .nil)))))))))))))))))))) (fun s2 r h g2 => ?_) (fun g2 => ?_)
      · clear hl
        refine Wp.seq ?_
        refine Wp.reg ?_
        refine Sq.v (r_lss (look_t rfl) (look_int 4)) rfl rfl rfl ?_
        refine Sq.nil ?_
        refine To.next ?_
        refine Wp.seq ?_
        refine Wp.cond (look_t rfl) (fun hc => ?_) (fun hc => ?_)
        · replace h := cond_t hc h
          refine Wp.skip ?_
          refine To.next ?_
          refine Wp.seq ?_
          refine Wp.block ?_
          refine Wp.seq ?_
          refine Wp.reg ?_
          refine Sq.v (r_move (look_t rfl)) rfl rfl rfl ?_
          refine Sq.v (r_asg (look_t rfl)) rfl rfl rfl ?_
          refine Sq.nil ?_
          refine To.next ?_
          refine Wp.seq ?_
          refine Wp.reg ?_
          refine Sq.v (r_move (look_t rfl)) rfl rfl rfl ?_
          refine Sq.nil ?_
          refine To.next ?_
          obtain ⟨m1, hm1, h⟩ := bind_some h
          refine Wp.condM (γ := Unit) (fun g3 => [(0, VP.of (x0)), (1, VP.of (x1)), (2, VP.of (x2)), (3, VP.of (x3)), (4, VP.of (x4)), (5, VP.eq (.pointer (some ⟨p1, 0, none⟩))), (6, VP.eq (.pointer (some ⟨p2, 0, none⟩))), (7, VP.eq (.pointer (some ⟨p3, 0, none⟩))), (8, VP.eq (.pointer (some ⟨p4, 0, none⟩))), (9, VP.eq (.pointer (some ⟨p5, 0, none⟩))), (10, VP.of (false)), (11, VP.eq (.pointer (some ⟨p6, 0, none⟩))), (12, VP.eq (.pointer (some ⟨p7, 0, none⟩))), (14, VP.of (lget [false, true] k1)), (15, VP.eq (.pointer (some ⟨p8, 0, none⟩))), (16, VP.of (s2.1)), (32, VP.of ([false, true])), (33, VP.of ([false, true].length : Int)), (34, VP.of (s1)), (35, VP.of (decide (s1 < ([false, true].length : Int)))), (39, VP.of (s2.1)), (40, VP.of (decide (s2.1 < 4))), (42, VP.of (lget [false, true] k1))]) (fun g3 => [⟨some p8, .var (m1 : Vector T_api_Value 4)⟩, ⟨some p7, .var (y2 : T_cube_Cube)⟩, ⟨some p6, .var (y1 : T_cube_Cube)⟩, ⟨some p5, .var (x4 : Vector T_api_Value 4)⟩, ⟨some p4, .var (x3 : Vector T_api_Value 4)⟩, ⟨some p3, .var (x2 : Vector T_api_Value 4)⟩, ⟨some p2, .var (x1 : Vector T_api_Value 4)⟩, ⟨some p1, .var (x0 : Vector T_api_Value 4)⟩]) (look_t rfl) (fun g3 => ?_) (fun hm hc => ?_) (fun hm hc => ?_)
          · clear hm1
            refine To.bnorm ?_
            refine To.next ?_
            refine Wp.reg ?_
            refine Sq.v (r_add (look_t rfl) (look_int 1)) rfl rfl rfl ?_
            refine Sq.v (r_move (look_t rfl)) rfl rfl rfl ?_
            refine Sq.nil ?_
            replace h := some_in h
            subst h
            exact To.roundG () 0 rfl (.same rfl (.same rfl (.same rfl (.same rfl (.same rfl (.same rfl (.same rfl (.same rfl (.same rfl (.same rfl (.same rfl (.same rfl (.same rfl (.same rfl (.same rfl (.same rfl (.same rfl (.same rfl (.same rfl (.same rfl .nil))))))))))))))))))))
          · have h := cond_t hc hm1
            obtain ⟨k2, hk2, h⟩ := bind_some h
            obtain ⟨k3, hk3, h⟩ := bind_some h
            obtain ⟨k4, hk4, h⟩ := bind_some h
            obtain ⟨y3, hy3, h⟩ := bind_some h
            obtain ⟨y4, hy4, h⟩ := bind_some h
            obtain ⟨y5, hy5, h⟩ := bind_some h
            obtain ⟨k5, hk5, h⟩ := bind_some h
            refine Wp.draw mixed 16 ((some 43) :: (some 44) :: (some 45) :: (some 46) :: (some 47) :: (some 48) :: (some 49) :: (some 50) :: (some 51) :: (some 52) :: (some 53) :: (some 54) :: (some 55) :: (some 56) :: (some 57) :: (some 58) :: []) ([] :: [] :: [] :: [1, 2] :: [3] :: [] :: [5] :: [6] :: [] :: [] :: [8, 9] :: [10] :: [11] :: [7, 12] :: [4, 13] :: [0] :: []) (.val (VP.of (s2.1)) :: .val (VP.of (s2.1)) :: .val (VP.eq (.pointer (some ⟨p6, 0 + 0, none⟩))) :: .val (VP.eq (.pointer (some ⟨p6, 0 + 0 + k2 * 2, none⟩))) :: .val (VP.of (vget y1.f_Value k2)) :: .val (VP.of (s2.1)) :: .val (VP.eq (.pointer (some ⟨p8, 0 + k3 * 2, none⟩))) :: .val (VP.of (vget s2.2 k3)) :: .val (VP.of (s2.1)) :: .val (VP.eq (.pointer (some ⟨p6, 0 + 8, none⟩))) :: .val (VP.eq (.pointer (some ⟨p6, 0 + 8 + k4 * 2, none⟩))) :: .val (VP.of (vget y1.f_Mask k4)) :: .val (VP.of (y3)) :: .val (VP.of (y4)) :: .val (VP.of (y5)) :: .val (VP.eq (.pointer (some ⟨p8, 0 + k5 * 2, none⟩))) :: []) (false :: false :: false :: false :: false :: false :: false :: false :: false :: false :: false :: false :: false :: false :: false :: false :: []) (by kernel_rfl) rfl rfl rfl (fun ps1 => ⟨fun L' hL => HO.v (r_move (look_t rfl)) rfl, fun L' hL => HO.v (r_move (look_t rfl)) rfl, fun L' hL => HO.v (r_fa fd28_0 (look_t rfl)) rfl, fun L' hL => HO.v (r_ia (k := k2) ar26 (look_t rfl) (look_t rfl) (idx_some hk2)) rfl, fun L' hL => HO.v (r_load (i := 2) (((Lens.id T_cube_Cube).comp le_T_cube_Cube_Value).comp (Lens.idx (α := T_api_Value) 4 k2 (idx_some hk2).1)) (r := vget y1.f_Value k2) ty24 (look_t rfl) (hL _ _ rfl rfl) rfl rfl) rfl, fun L' hL => HO.v (r_move (look_t rfl)) rfl, fun L' hL => HO.v (r_ia (k := k3) ar26 (look_t rfl) (look_t rfl) (idx_some hk3)) rfl, fun L' hL => HO.v (r_load (i := 0) ((Lens.id (Vector T_api_Value 4)).comp (Lens.idx (α := T_api_Value) 4 k3 (idx_some hk3).1)) (r := vget s2.2 k3) ty24 (look_t rfl) (hL _ _ rfl rfl) rfl rfl) rfl, fun L' hL => HO.v (r_move (look_t rfl)) rfl, fun L' hL => HO.v (r_fa fd28_1 (look_t rfl)) rfl, fun L' hL => HO.v (r_ia (k := k4) ar26 (look_t rfl) (look_t rfl) (idx_some hk4)) rfl, fun L' hL => HO.v (r_load (i := 2) (((Lens.id T_cube_Cube).comp le_T_cube_Cube_Mask).comp (Lens.idx (α := T_api_Value) 4 k4 (idx_some hk4).1)) (r := vget y1.f_Mask k4) ty24 (look_t rfl) (hL _ _ rfl rfl) rfl rfl) rfl, fun L' hL => HO.v (r_call en24 (C_ref01_Not hy3) ⟨look_t rfl, look_int 128, trivial⟩) rfl, fun L' hL => HO.v (r_call en23 (C_ref01_And hy4) ⟨look_t rfl, look_t rfl, trivial⟩) rfl, fun L' hL => HO.v (r_call en22 (C_ref01_Or hy5) ⟨look_t rfl, look_t rfl, trivial⟩) rfl, fun L' hL => HO.v (r_ia (k := k5) ar26 (look_t rfl) (look_t rfl) (idx_some hk5)) rfl, trivial⟩) fun ps1 => ?_
            refine Sq.store (i := 0) ((Lens.id (Vector T_api_Value 4)).comp (Lens.idx (α := T_api_Value) 4 k5 (idx_some hk5).1)) (v := (y5 : T_api_Value)) (b' := (vset s2.2 k5 y5 : Vector T_api_Value 4)) ty24 (look_t rfl) (look_t rfl) rfl rfl rfl ?_
            refine Sq.nil ?_
            replace h := some_in h
            subst h
            exact To.meet 0 rfl (.same rfl (.same rfl (.same rfl (.same rfl (.same rfl (.same rfl (.same rfl (.same rfl (.same rfl (.same rfl (.same rfl (.same rfl (.same rfl (.same rfl (.same rfl (.same rfl (.same rfl (.same rfl (.same rfl (.same rfl (.same rfl (.same rfl (.same rfl .nil))))))))))))))))))))))) (hm ())
          · have h := cond_f hc hm1
            refine Wp.skip ?_
            replace h := some_in h
            subst h
            exact To.meet 0 rfl (.same rfl (.same rfl (.same rfl (.same rfl (.same rfl (.same rfl (.same rfl (.same rfl (.same rfl (.same rfl (.same rfl (.same rfl (.same rfl (.same rfl (.same rfl (.same rfl (.same rfl (.same rfl (.same rfl (.same rfl (.same rfl (.same rfl (.same rfl .nil))))))))))))))))))))))) (hm ())
        · replace h := cond_f hc h
          refine Wp.exit ?_
          refine To.exit ?_
          replace h := some_in h
          subst h
          exact To.leaveG () 0 rfl (by simp) rfl (.same rfl (.same rfl (.same rfl (.same rfl (.same rfl (.same rfl (.same rfl (.same rfl (.same rfl (.same rfl (.same rfl (.same rfl (.same rfl (.same rfl (.same rfl (.same rfl (.same rfl (.same rfl (.same rfl (.same rfl (.same rfl .nil)))))))))))))))))))))
      · clear hl
        refine To.bexit ?_
        refine To.next ?_
        refine Wp.seq ?_
        refine Wp.reg ?_
        refine Sq.v (r_asg (look_int 0)) rfl rfl rfl ?_
        refine Sq.nil ?_
        refine To.next ?_
        refine Wp.seq ?_
        refine Wp.seq ?_
        refine Wp.reg ?_
        refine Sq.v (r_load (i := 2) (Lens.id T_cube_Cube) (r := y1) ty28 (look_t rfl) rfl rfl rfl) rfl rfl rfl ?_
        refine Sq.v (r_load (i := 1) (Lens.id T_cube_Cube) (r := y2) ty28 (look_t rfl) rfl rfl rfl) rfl rfl rfl ?_
        obtain ⟨y6, hy6, h⟩ := bind_some h
        refine Sq.v (r_call en15 (C_cube_Minus hy6) ⟨look_t rfl, look_t rfl, trivial⟩) rfl rfl rfl ?_
        refine Sq.v (r_len Try.underlying31 (look_t rfl)) rfl rfl rfl ?_
        refine Sq.v (r_move (look_int 0)) rfl rfl rfl ?_
        refine Sq.nil ?_
        refine To.next ?_
        refine Wp.block ?_
        obtain ⟨e3, hl, h⟩ := bind_some h
        refine Wp.loopG (σ := Int × Int) (ε := (Int × Int × Bool)) (γ := Unit) (δ := Unit) hl (fun s3 g4 => [(0, VP.of (x0)), (1, VP.of (x1)), (2, VP.of (x2)), (3, VP.of (x3)), (4, VP.of (x4)), (5, VP.eq (.pointer (some ⟨p1, 0, none⟩))), (6, VP.eq (.pointer (some ⟨p2, 0, none⟩))), (7, VP.eq (.pointer (some ⟨p3, 0, none⟩))), (8, VP.eq (.pointer (some ⟨p4, 0, none⟩))), (9, VP.eq (.pointer (some ⟨p5, 0, none⟩))), (10, VP.of (false)), (11, VP.eq (.pointer (some ⟨p6, 0, none⟩))), (12, VP.eq (.pointer (some ⟨p7, 0, none⟩))), (14, VP.of (lget [false, true] k1)), (15, VP.eq (.pointer (some ⟨p8, 0, none⟩))), (17, VP.of (s3.1)), (32, VP.of ([false, true])), (33, VP.of ([false, true].length : Int)), (34, VP.of (s1)), (35, VP.of (decide (s1 < ([false, true].length : Int)))), (39, VP.of (e2.1)), (40, VP.of (e2.2.1)), (62, VP.of (y6)), (63, VP.of (y6.length : Int)), (64, VP.of (s3.2))]) (fun s3 g4 => [⟨some p8, .var (e2.2.2 : Vector T_api_Value 4)⟩, ⟨some p7, .var (y2 : T_cube_Cube)⟩, ⟨some p6, .var (y1 : T_cube_Cube)⟩, ⟨some p5, .var (x4 : Vector T_api_Value 4)⟩, ⟨some p4, .var (x3 : Vector T_api_Value 4)⟩, ⟨some p3, .var (x2 : Vector T_api_Value 4)⟩, ⟨some p2, .var (x1 : Vector T_api_Value 4)⟩, ⟨some p1, .var (x0 : Vector T_api_Value 4)⟩]) (fun q3 => Exit.exit 4) (fun q3 g4 => [(0, VP.of (x0)), (1, VP.of (x1)), (2, VP.of (x2)), (3, VP.of (x3)), (4, VP.of (x4)), (5, VP.eq (.pointer (some ⟨p1, 0, none⟩))), (6, VP.eq (.pointer (some ⟨p2, 0, none⟩))), (7, VP.eq (.pointer (some ⟨p3, 0, none⟩))), (8, VP.eq (.pointer (some ⟨p4, 0, none⟩))), (9, VP.eq (.pointer (some ⟨p5, 0, none⟩))), (10, VP.of (false)), (11, VP.eq (.pointer (some ⟨p6, 0, none⟩))), (12, VP.eq (.pointer (some ⟨p7, 0, none⟩))), (14, VP.of (lget [false, true] k1)), (15, VP.eq (.pointer (some ⟨p8, 0, none⟩))), (17, VP.of (q3.1)), (32, VP.of ([false, true])), (33, VP.of ([false, true].length : Int)), (34, VP.of (s1)), (35, VP.of (decide (s1 < ([false, true].length : Int)))), (39, VP.of (e2.1)), (40, VP.of (e2.2.1)), (62, VP.of (y6)), (63, VP.of (y6.length : Int)), (64, VP.of (q3.2.1)), (65, VP.of (q3.2.2))]) (fun q3 g4 => [⟨some p8, .var (e2.2.2 : Vector T_api_Value 4)⟩, ⟨some p7, .var (y2 : T_cube_Cube)⟩, ⟨some p6, .var (y1 : T_cube_Cube)⟩, ⟨some p5, .var (x4 : Vector T_api_Value 4)⟩, ⟨some p4, .var (x3 : Vector T_api_Value 4)⟩, ⟨some p3, .var (x2 : Vector T_api_Value 4)⟩, ⟨some p2, .var (x1 : Vector T_api_Value 4)⟩, ⟨some p1, .var (x0 : Vector T_api_Value 4)⟩]) () rfl (.same rfl (.same rfl (.same rfl (.same rfl (.same rfl (.same rfl (.same rfl (.same rfl (.same rfl (.same rfl (.same rfl (.same rfl (.same rfl (.same rfl (.same rfl (.same rfl (.same rfl (.same rfl (.same rfl (.same rfl (.same rfl (.same rfl (.same rfl (.same rfl (.same rfl .nil))))))))))))))))))))))))) (fun s3 r h g4 => ?_) (fun g4 => ?_)
        · clear hl
          refine Wp.seq ?_
          refine Wp.reg ?_
          refine Sq.v (r_lss (look_t rfl) (look_t rfl)) rfl rfl rfl ?_
          refine Sq.nil ?_
          refine To.next ?_
          refine Wp.seq ?_
          refine Wp.cond (look_t rfl) (fun hc => ?_) (fun hc => ?_)
          · replace h := cond_t hc h
            refine Wp.skip ?_
            refine To.next ?_
            refine Wp.seq ?_
            refine Wp.block ?_
            refine Wp.seq ?_
            refine Wp.reg ?_
            obtain ⟨k6, hk6, h⟩ := bind_some h
            refine Sq.v (r_ias (k := k6) Try.underlying31 ty28 (look_t rfl) (look_t rfl) (idx_some hk6)) rfl rfl rfl ?_
            refine Sq.v (r_loadp ty28 (look_t rfl)) rfl rfl rfl ?_
            refine Sq.alloc zr28 rfl fun p9 => ?_
            refine Sq.store (i := 0) (Lens.id T_cube_Cube) (v := (lget y6 k6 : T_cube_Cube)) (b' := (lget y6 k6 : T_cube_Cube)) ty28 (look_t rfl) (look_t rfl) rfl rfl rfl ?_
            refine Sq.nil ?_
            refine To.next ?_
            refine Wp.seq ?_
            refine Wp.reg ?_
            refine Sq.v (r_load (i := 0) (Lens.id T_cube_Cube) (r := (lget y6 k6)) ty28 (look_t rfl) rfl rfl rfl) rfl rfl rfl ?_
            refine Sq.v (r_load (i := 1) (Lens.id (Vector T_api_Value 4)) (r := e2.2.2) ty26 (look_t rfl) rfl rfl rfl) rfl rfl rfl ?_
            obtain ⟨y7, hy7, h⟩ := bind_some h
            refine Sq.v (r_call en25 (C_cube_Contains hy7) ⟨look_t rfl, look_t rfl, trivial⟩) rfl rfl rfl ?_
            refine Sq.nil ?_
            refine To.next ?_
            obtain ⟨m2, hm2, h⟩ := bind_some h
            refine Wp.condM (γ := Unit) (fun g5 => [(0, VP.of (x0)), (1, VP.of (x1)), (2, VP.of (x2)), (3, VP.of (x3)), (4, VP.of (x4)), (5, VP.eq (.pointer (some ⟨p1, 0, none⟩))), (6, VP.eq (.pointer (some ⟨p2, 0, none⟩))), (7, VP.eq (.pointer (some ⟨p3, 0, none⟩))), (8, VP.eq (.pointer (some ⟨p4, 0, none⟩))), (9, VP.eq (.pointer (some ⟨p5, 0, none⟩))), (10, VP.of (false)), (11, VP.eq (.pointer (some ⟨p6, 0, none⟩))), (12, VP.eq (.pointer (some ⟨p7, 0, none⟩))), (14, VP.of (lget [false, true] k1)), (15, VP.eq (.pointer (some ⟨p8, 0, none⟩))), (17, VP.of (m2)), (19, VP.eq (.pointer (some ⟨p9, 0, none⟩))), (32, VP.of ([false, true])), (33, VP.of ([false, true].length : Int)), (34, VP.of (s1)), (35, VP.of (decide (s1 < ([false, true].length : Int)))), (39, VP.of (e2.1)), (40, VP.of (e2.2.1)), (62, VP.of (y6)), (63, VP.of (y6.length : Int)), (64, VP.of (s3.2)), (65, VP.of (decide (s3.2 < (y6.length : Int)))), (70, VP.of (y7))]) (fun g5 => [⟨some p9, .var (lget y6 k6 : T_cube_Cube)⟩, ⟨some p8, .var (e2.2.2 : Vector T_api_Value 4)⟩, ⟨some p7, .var (y2 : T_cube_Cube)⟩, ⟨some p6, .var (y1 : T_cube_Cube)⟩, ⟨some p5, .var (x4 : Vector T_api_Value 4)⟩, ⟨some p4, .var (x3 : Vector T_api_Value 4)⟩, ⟨some p3, .var (x2 : Vector T_api_Value 4)⟩, ⟨some p2, .var (x1 : Vector T_api_Value 4)⟩, ⟨some p1, .var (x0 : Vector T_api_Value 4)⟩]) (look_t rfl) (fun g5 => ?_) (fun hm hc => ?_) (fun hm hc => ?_)
            · clear hm2
              refine To.bnorm ?_
              refine To.next ?_
              refine Wp.reg ?_
              refine Sq.v (r_add (look_t rfl) (look_int 1)) rfl rfl rfl ?_
              refine Sq.v (r_move (look_t rfl)) rfl rfl rfl ?_
              refine Sq.nil ?_
              replace h := some_in h
              subst h
              exact To.roundG () 1 rfl (.same rfl (.same rfl (.same rfl (.same rfl (.same rfl (.same rfl (.same rfl (.same rfl (.same rfl (.same rfl (.same rfl (.same rfl (.same rfl (.same rfl (.same rfl (.same rfl (.same rfl (.same rfl (.same rfl (.same rfl (.same rfl (.same rfl (.same rfl (.same rfl (.same rfl .nil)))))))))))))))))))))))))
            · have h := cond_t hc hm2
              refine Wp.reg ?_
              refine Sq.v (r_move (look_t rfl)) rfl rfl rfl ?_
              refine Sq.v (r_add (look_t rfl) (look_int 1)) rfl rfl rfl ?_
              refine Sq.v (r_asg (look_t rfl)) rfl rfl rfl ?_
              refine Sq.nil ?_
              replace h := some_in h
              subst h
              exact To.meet 0 rfl (.same rfl (.same rfl (.same rfl (.same rfl (.same rfl (.same rfl (.same rfl (.same rfl (.same rfl (.same rfl (.same rfl (.same rfl (.same rfl (.same rfl (.same rfl (.same rfl (.same rfl (.same rfl (.same rfl (.same rfl (.same rfl (.same rfl (.same rfl (.same rfl (.same rfl (.same rfl (.same rfl (.same rfl .nil)))))))))))))))))))))))))))) (hm ())
            · have h := cond_f hc hm2
              refine Wp.skip ?_
              replace h := some_in h
              subst h
              exact To.meet 0 rfl (.same rfl (.same rfl (.same rfl (.same rfl (.same rfl (.same rfl (.same rfl (.same rfl (.same rfl (.same rfl (.same rfl (.same rfl (.same rfl (.same rfl (.same rfl (.same rfl (.same rfl (.same rfl (.same rfl (.same rfl (.same rfl (.same rfl (.same rfl (.same rfl (.same rfl (.same rfl (.same rfl (.same rfl .nil)))))))))))))))))))))))))))) (hm ())
          · replace h := cond_f hc h
            refine Wp.exit ?_
            refine To.exit ?_
            replace h := some_in h
            subst h
            exact To.leaveG () 0 rfl (by simp) rfl (.same rfl (.same rfl (.same rfl (.same rfl (.same rfl (.same rfl (.same rfl (.same rfl (.same rfl (.same rfl (.same rfl (.same rfl (.same rfl (.same rfl (.same rfl (.same rfl (.same rfl (.same rfl (.same rfl (.same rfl (.same rfl (.same rfl (.same rfl (.same rfl (.same rfl (.same rfl .nil))))))))))))))))))))))))))
        · clear hl
          refine To.bexit ?_
          refine To.next ?_
          refine Wp.seq ?_
          refine Wp.seq ?_
          refine Wp.reg ?_
          refine Sq.v (r_load (i := 2) (Lens.id T_cube_Cube) (r := y1) ty28 (look_t rfl) rfl rfl rfl) rfl rfl rfl ?_
          refine Sq.v (r_load (i := 1) (Lens.id T_cube_Cube) (r := y2) ty28 (look_t rfl) rfl rfl rfl) rfl rfl rfl ?_
          obtain ⟨y8, hy8, h⟩ := bind_some h
          refine Sq.v (r_call en18 (C_cube_Meet hy8) ⟨look_t rfl, look_t rfl, trivial⟩) rfl rfl rfl ?_
          refine Sq.v (r_move (look_t rfl)) rfl rfl rfl ?_
          refine Sq.v (r_ext (look_t rfl) rfl) rfl rfl rfl ?_
          refine Sq.v (r_ext (look_t rfl) rfl) rfl rfl rfl ?_
          refine Sq.alloc zr28 rfl fun p10 => ?_
          refine Sq.store (i := 0) (Lens.id T_cube_Cube) (v := (y8.1 : T_cube_Cube)) (b' := (y8.1 : T_cube_Cube)) ty28 (look_t rfl) (look_t rfl) rfl rfl rfl ?_
          refine Sq.v (r_asg (look_t rfl)) rfl rfl rfl ?_
          refine Sq.nil ?_
          refine To.next ?_
          refine Wp.seq ?_
          refine Wp.reg ?_
          refine Sq.v (r_move (look_t rfl)) rfl rfl rfl ?_
          refine Sq.v (r_move (look_t rfl)) rfl rfl rfl ?_
          refine Sq.g (fun hb => r_load (i := 0) (Lens.id T_cube_Cube) (r := y8.1) ty28 (look_t rfl) rfl rfl rfl) rfl rfl rfl rfl rfl ?_
          refine Sq.g (fun hb => r_load (i := 1) (Lens.id (Vector T_api_Value 4)) (r := e2.2.2) ty26 (look_t rfl) rfl rfl rfl) rfl rfl rfl rfl rfl ?_
          obtain ⟨y9, hy9, h⟩ := bind_some h
          refine Sq.g (fun hb => r_call en25 (C_cube_Contains (condM_some hy9 hb)) ⟨look_tc rfl hb, look_tc rfl hb, trivial⟩) rfl rfl rfl rfl rfl ?_
          refine Sq.v (r_and (look_t rfl) (look_t rfl) (fun h => h)) rfl rfl rfl ?_
          refine Sq.nil ?_
          refine To.next ?_
          obtain ⟨m3, hm3, h⟩ := bind_some h
          refine Wp.condM (γ := Unit) (fun g6 => [(0, VP.of (x0)), (1, VP.of (x1)), (2, VP.of (x2)), (3, VP.of (x3)), (4, VP.of (x4)), (5, VP.eq (.pointer (some ⟨p1, 0, none⟩))), (6, VP.eq (.pointer (some ⟨p2, 0, none⟩))), (7, VP.eq (.pointer (some ⟨p3, 0, none⟩))), (8, VP.eq (.pointer (some ⟨p4, 0, none⟩))), (9, VP.eq (.pointer (some ⟨p5, 0, none⟩))), (10, VP.of (false)), (11, VP.eq (.pointer (some ⟨p6, 0, none⟩))), (12, VP.eq (.pointer (some ⟨p7, 0, none⟩))), (14, VP.of (lget [false, true] k1)), (15, VP.eq (.pointer (some ⟨p8, 0, none⟩))), (17, VP.of (m3)), (20, VP.eq (.pointer (some ⟨p10, 0, none⟩))), (21, VP.of (y8.2)), (32, VP.of ([false, true])), (33, VP.of ([false, true].length : Int)), (34, VP.of (s1)), (35, VP.of (decide (s1 < ([false, true].length : Int)))), (39, VP.of (e2.1)), (40, VP.of (e2.2.1)), (62, VP.of (y6)), (63, VP.of (y6.length : Int)), (64, VP.of (e3.2.1)), (65, VP.of (e3.2.2)), (85, VP.of (y8.2 && y9))]) (fun g6 => [⟨some p10, .var (y8.1 : T_cube_Cube)⟩, ⟨some p8, .var (e2.2.2 : Vector T_api_Value 4)⟩, ⟨some p7, .var (y2 : T_cube_Cube)⟩, ⟨some p6, .var (y1 : T_cube_Cube)⟩, ⟨some p5, .var (x4 : Vector T_api_Value 4)⟩, ⟨some p4, .var (x3 : Vector T_api_Value 4)⟩, ⟨some p3, .var (x2 : Vector T_api_Value 4)⟩, ⟨some p2, .var (x1 : Vector T_api_Value 4)⟩, ⟨some p1, .var (x0 : Vector T_api_Value 4)⟩]) (look_t rfl) (fun g6 => ?_) (fun hm hc => ?_) (fun hm hc => ?_)
          · clear hm3
            refine To.next ?_
            refine Wp.seq ?_
            refine Wp.reg ?_
            refine Sq.v (r_asg (look_int 0)) rfl rfl rfl ?_
            refine Sq.nil ?_
            refine To.next ?_
            refine Wp.seq ?_
            refine Wp.seq ?_
            refine Wp.reg ?_
            refine Sq.v (r_load (i := 3) (Lens.id T_cube_Cube) (r := y1) ty28 (look_t rfl) rfl rfl rfl) rfl rfl rfl ?_
            refine Sq.v (r_load (i := 1) (Lens.id (Vector T_api_Value 4)) (r := e2.2.2) ty26 (look_t rfl) rfl rfl rfl) rfl rfl rfl ?_
            obtain ⟨y10, hy10, h⟩ := bind_some h
            refine Sq.v (r_call en25 (C_cube_Contains hy10) ⟨look_t rfl, look_t rfl, trivial⟩) rfl rfl rfl ?_
            refine Sq.nil ?_
            refine To.next ?_
            obtain ⟨m4, hm4, h⟩ := bind_some h
            refine Wp.condM (γ := Unit) (fun g7 => [(0, VP.of (x0)), (1, VP.of (x1)), (2, VP.of (x2)), (3, VP.of (x3)), (4, VP.of (x4)), (5, VP.eq (.pointer (some ⟨p1, 0, none⟩))), (6, VP.eq (.pointer (some ⟨p2, 0, none⟩))), (7, VP.eq (.pointer (some ⟨p3, 0, none⟩))), (8, VP.eq (.pointer (some ⟨p4, 0, none⟩))), (9, VP.eq (.pointer (some ⟨p5, 0, none⟩))), (10, VP.of (false)), (11, VP.eq (.pointer (some ⟨p6, 0, none⟩))), (12, VP.eq (.pointer (some ⟨p7, 0, none⟩))), (14, VP.of (lget [false, true] k1)), (15, VP.eq (.pointer (some ⟨p8, 0, none⟩))), (17, VP.of (m3)), (20, VP.eq (.pointer (some ⟨p10, 0, none⟩))), (21, VP.of (y8.2)), (22, VP.of (m4)), (32, VP.of ([false, true])), (33, VP.of ([false, true].length : Int)), (34, VP.of (s1)), (35, VP.of (decide (s1 < ([false, true].length : Int)))), (39, VP.of (e2.1)), (40, VP.of (e2.2.1)), (62, VP.of (y6)), (63, VP.of (y6.length : Int)), (64, VP.of (e3.2.1)), (65, VP.of (e3.2.2)), (85, VP.of (y8.2 && y9)), (90, VP.of (y10))]) (fun g7 => [⟨some p10, .var (y8.1 : T_cube_Cube)⟩, ⟨some p8, .var (e2.2.2 : Vector T_api_Value 4)⟩, ⟨some p7, .var (y2 : T_cube_Cube)⟩, ⟨some p6, .var (y1 : T_cube_Cube)⟩, ⟨some p5, .var (x4 : Vector T_api_Value 4)⟩, ⟨some p4, .var (x3 : Vector T_api_Value 4)⟩, ⟨some p3, .var (x2 : Vector T_api_Value 4)⟩, ⟨some p2, .var (x1 : Vector T_api_Value 4)⟩, ⟨some p1, .var (x0 : Vector T_api_Value 4)⟩]) (look_t rfl) (fun g7 => ?_) (fun hm hc => ?_) (fun hm hc => ?_)
            · clear hm4
              refine To.next ?_
              refine Wp.seq ?_
              refine Wp.reg ?_
              refine Sq.v (r_move (look_t rfl)) rfl rfl rfl ?_
              refine Sq.v (r_move (look_t rfl)) rfl rfl rfl ?_
              refine Sq.v (r_neq (look_t rfl) (look_t rfl)) rfl rfl rfl ?_
              refine Sq.v (r_move (look_t rfl)) rfl rfl rfl ?_
              refine Sq.g (fun hb => r_move (look_t rfl)) rfl rfl rfl rfl rfl ?_
              refine Sq.g (fun hb => r_move (look_tc rfl hb)) rfl rfl rfl rfl rfl ?_
              refine Sq.gg (fun hb => r_move (look_t rfl)) rfl rfl rfl rfl rfl ?_
              refine Sq.gg (fun hb => r_eql (look_tc rfl hb) (look_int 0)) rfl rfl rfl rfl rfl ?_
              refine Sq.g (fun hb => r_and (look_tc rfl hb) (look_t rfl) (fun h => ⟨hb, h⟩)) rfl rfl rfl rfl rfl ?_
              refine Sq.v (r_or (look_t rfl) (look_t rfl) (fun h => h)) rfl rfl rfl ?_
              refine Sq.nil ?_
              refine To.next ?_
              refine Wp.cond (look_t rfl) (fun hc => ?_) (fun hc => ?_)
              · replace h := cond_t hc h
                refine Wp.seq ?_
                refine Wp.reg ?_
                refine Sq.v (r_asg (look_bool false)) rfl rfl rfl ?_
                refine Sq.nil ?_
                refine To.next ?_
                refine Wp.ret ?_
                refine To.bret ?_
                refine To.ret ?_
                replace h := some_in h
                subst h
                exact To.leaveG () 2 rfl (by simp) rfl (.same rfl (.same rfl (.same rfl (.same rfl (.same rfl (.same rfl (.same rfl (.same rfl (.same rfl (.same rfl (.same rfl (.same rfl (.same rfl (.same rfl (.same rfl (.same rfl (.same rfl (.same rfl (.same rfl (.same rfl (.same rfl (.same rfl (.same rfl (.same rfl (.same rfl (.same rfl (.same rfl (.same rfl (.same rfl (.same rfl .nil))))))))))))))))))))))))))))))
              · replace h := cond_f hc h
                refine Wp.skip ?_
                refine To.bnorm ?_
                refine To.next ?_
                refine Wp.reg ?_
                refine Sq.v (r_add (look_t rfl) (look_int 1)) rfl rfl rfl ?_
                refine Sq.v (r_move (look_t rfl)) rfl rfl rfl ?_
                refine Sq.nil ?_
                replace h := some_in h
                subst h
                exact To.roundG () 2 rfl (.same rfl (.same rfl (.same rfl (.same rfl (.same rfl (.same rfl (.same rfl (.same rfl (.same rfl (.same rfl (.same rfl (.same rfl (.same rfl (.same rfl (.same rfl (.same rfl .nil))))))))))))))))
            · have h := cond_t hc hm4
              refine Wp.reg ?_
              refine Sq.v (r_asg (look_int 1)) rfl rfl rfl ?_
              refine Sq.nil ?_
              replace h := some_in h
              subst h
              exact To.meet 0 rfl (.same rfl (.same rfl (.same rfl (.same rfl (.same rfl (.same rfl (.same rfl (.same rfl (.same rfl (.same rfl (.same rfl (.same rfl (.same rfl (.same rfl (.same rfl (.same rfl (.same rfl (.same rfl (.same rfl (.same rfl (.same rfl (.same rfl (.same rfl (.same rfl (.same rfl (.same rfl (.same rfl (.same rfl (.same rfl (.same rfl (.same rfl .nil))))))))))))))))))))))))))))))) (hm ())
            · have h := cond_f hc hm4
              refine Wp.skip ?_
              replace h := some_in h
              subst h
              exact To.meet 0 rfl (.same rfl (.same rfl (.same rfl (.same rfl (.same rfl (.same rfl (.same rfl (.same rfl (.same rfl (.same rfl (.same rfl (.same rfl (.same rfl (.same rfl (.same rfl (.same rfl (.same rfl (.same rfl (.same rfl (.same rfl (.same rfl (.same rfl (.same rfl (.same rfl (.same rfl (.same rfl (.same rfl (.same rfl (.same rfl (.same rfl (.same rfl .nil))))))))))))))))))))))))))))))) (hm ())
          · have h := cond_t hc hm3
            refine Wp.reg ?_
            refine Sq.v (r_move (look_t rfl)) rfl rfl rfl ?_
            refine Sq.v (r_add (look_t rfl) (look_int 1)) rfl rfl rfl ?_
            refine Sq.v (r_asg (look_t rfl)) rfl rfl rfl ?_
            refine Sq.nil ?_
            replace h := some_in h
            subst h
            exact To.meet 0 rfl (.same rfl (.same rfl (.same rfl (.same rfl (.same rfl (.same rfl (.same rfl (.same rfl (.same rfl (.same rfl (.same rfl (.same rfl (.same rfl (.same rfl (.same rfl (.same rfl (.same rfl (.same rfl (.same rfl (.same rfl (.same rfl (.same rfl (.same rfl (.same rfl (.same rfl (.same rfl (.same rfl (.same rfl (.same rfl .nil))))))))))))))))))))))))))))) (hm ())
          · have h := cond_f hc hm3
            refine Wp.skip ?_
            replace h := some_in h
            subst h
            exact To.meet 0 rfl (.same rfl (.same rfl (.same rfl (.same rfl (.same rfl (.same rfl (.same rfl (.same rfl (.same rfl (.same rfl (.same rfl (.same rfl (.same rfl (.same rfl (.same rfl (.same rfl (.same rfl (.same rfl (.same rfl (.same rfl (.same rfl (.same rfl (.same rfl (.same rfl (.same rfl (.same rfl (.same rfl (.same rfl (.same rfl .nil))))))))))))))))))))))))))))) (hm ())
    · replace h := cond_f hc h
      refine Wp.exit ?_
      refine To.exit ?_
      replace h := some_in h
      subst h
      exact To.leaveG () 0 rfl (by simp) rfl (.same rfl (.same rfl (.same rfl (.same rfl (.same rfl (.same rfl (.same rfl (.same rfl (.same rfl (.same rfl (.same rfl (.same rfl (.same rfl (.same rfl (.same rfl (.same rfl (.same rfl .nil)))))))))))))))))
  · clear hl
    rcases e1 with e1 | e1
    · simp only [Sum.elim_inl] at h
      refine To.bexit ?_
      refine To.next ?_
      refine Wp.seq ?_
      refine Wp.reg ?_
      obtain ⟨y11, hy11, h⟩ := bind_some h
      refine Sq.v (r_call en19 (C_law25_begun hy11) trivial) rfl rfl rfl ?_
      refine Sq.v (r_asg (look_t rfl)) rfl rfl rfl ?_
      refine Sq.nil ?_
      refine To.next ?_
      refine Wp.ret ?_
      replace h := some_in h
      subst h
      exact To.end1 rfl (rv_t rfl)
    · simp only [Sum.elim_inr] at h
      refine To.bret ?_
      refine To.ret ?_
      replace h := some_in h
      subst h
      exact To.end1 rfl (rv_t rfl)
set_option maxHeartbeats 2000000 in
theorem C_cube_Within {x0 : T_cube_Cube} {x1 : T_cube_Cube} {r : Bool} (h : L_cube_Within x0 x1 = some r) : Meets Try.prog 27 [VP.of (x0), VP.of (x1)] (VP.of (r)) := by
  unfold L_cube_Within at h
  refine Meets.of Try.func27 rfl Try.ntmps27 rfl fun W A => ?_
  refine Wp.seq ?_
  refine Wp.reg ?_
  refine Sq.box (z := (x0 : T_cube_Cube)) (look_t rfl) rfl fun p1 => ?_
  refine Sq.box (z := (x1 : T_cube_Cube)) (look_t rfl) rfl fun p2 => ?_
  refine Sq.v (r_asg (look_bool false)) rfl rfl rfl ?_
  refine Sq.nil ?_
  refine To.next ?_
  refine Wp.seq ?_
  refine Wp.reg ?_
  refine Sq.v (r_load (i := 1) (Lens.id T_cube_Cube) (r := x0) ty28 (look_t rfl) rfl rfl rfl) rfl rfl rfl ?_
  refine Sq.v (r_load (i := 0) (Lens.id T_cube_Cube) (r := x1) ty28 (look_t rfl) rfl rfl rfl) rfl rfl rfl ?_
  obtain ⟨y1, hy1, h⟩ := bind_some h
  refine Sq.v (r_call en18 (C_cube_Meet hy1) ⟨look_t rfl, look_t rfl, trivial⟩) rfl rfl rfl ?_
  refine Sq.v (r_move (look_t rfl)) rfl rfl rfl ?_
  refine Sq.v (r_ext (look_t rfl) rfl) rfl rfl rfl ?_
  refine Sq.v (r_ext (look_t rfl) rfl) rfl rfl rfl ?_
  refine Sq.alloc zr28 rfl fun p3 => ?_
  refine Sq.store (i := 0) (Lens.id T_cube_Cube) (v := (y1.1 : T_cube_Cube)) (b' := (y1.1 : T_cube_Cube)) ty28 (look_t rfl) (look_t rfl) rfl rfl rfl ?_
  refine Sq.v (r_asg (look_t rfl)) rfl rfl rfl ?_
  refine Sq.nil ?_
  refine To.next ?_
  refine Wp.seq ?_
  refine Wp.reg ?_
  refine Sq.v (r_move (look_t rfl)) rfl rfl rfl ?_
  refine Sq.v (r_move (look_t rfl)) rfl rfl rfl ?_
  refine Sq.g (fun hb => r_load (i := 0) (Lens.id T_cube_Cube) (r := y1.1) ty28 (look_t rfl) rfl rfl rfl) rfl rfl rfl rfl rfl ?_
  refine Sq.g (fun hb => r_load (i := 2) (Lens.id T_cube_Cube) (r := x0) ty28 (look_t rfl) rfl rfl rfl) rfl rfl rfl rfl rfl ?_
  refine Sq.g (fun hb => r_eqA eqv28 rfl eqg28 rfl (look_tc rfl hb) (look_tc rfl hb)) rfl rfl rfl rfl rfl ?_
  refine Sq.v (r_and (look_t rfl) (look_t rfl) (fun h => h)) rfl rfl rfl ?_
  refine Sq.v (r_asg (look_t rfl)) rfl rfl rfl ?_
  refine Sq.nil ?_
  refine To.next ?_
  refine Wp.ret ?_
  replace h := some_in h
  subst h
  exact To.end1 rfl (rv_t rfl)
end Go.Proofs.Ytabodolbdalimaa
