/-
  Printed by the decompiler (dec.py) out of the seat's translation. Each function meets its functional program. Conditions: none.
-/
import Derived.Test.YtabodolbdalimaaDc2
namespace Go.Proofs.Ytabodolbdalimaa
open Go Gv
set_option linter.unusedVariables false
set_option linter.unusedSimpArgs false
set_option maxRecDepth 100000
set_option maxHeartbeats 2000000 in
theorem C_ref01_Not {x0 : T_api_Value} {x1 : Int} {r : T_api_Value} (h : L_ref01_Not x0 x1 = some r) : Meets Try.prog 24 [VP.of (x0), VP.of (x1)] (VP.of (r)) := by
  unfold L_ref01_Not at h
  refine Meets.of Try.func24 rfl Try.ntmps24 rfl fun W A => ?_
  refine Wp.seq ?_
  refine Wp.reg ?_
  refine Sq.box (z := (x0 : T_api_Value)) (look_t rfl) rfl fun p1 => ?_
  refine Sq.alloc zr24 rfl fun p2 => ?_
  refine Sq.nil ?_
  refine To.next ?_
  refine Wp.seq ?_
  refine Wp.reg ?_
  refine Sq.v (r_load (i := 1) (Lens.id T_api_Value) (r := x0) ty24 (look_t rfl) rfl rfl rfl) rfl rfl rfl ?_
  obtain ⟨y1, hy1, h⟩ := bind_some h
  refine Sq.v (r_call en62 (C_ref01_Read hy1) ⟨look_t rfl, trivial⟩) rfl rfl rfl ?_
  refine Sq.alloc zr111 rfl fun p3 => ?_
  refine Sq.store (i := 0) (Lens.id (Vector Bool 128)) (v := (y1 : Vector Bool 128)) (b' := (y1 : Vector Bool 128)) ty111 (look_t rfl) (look_t rfl) rfl rfl rfl ?_
  refine Sq.nil ?_
  refine To.next ?_
  refine Wp.seq ?_
  refine Wp.seq ?_
  refine Wp.reg ?_
  refine Sq.v (r_move (look_int 0)) rfl rfl rfl ?_
  refine Sq.nil ?_
  refine To.next ?_
  refine Wp.block ?_
  obtain ⟨e1, hl, h⟩ := bind_some h
  refine Wp.loopG (σ := Int × (Vector Bool 128)) (ε := (Int × Bool × (Vector Bool 128))) (γ := Unit) (δ := Unit) hl (fun s1 g1 => [(0, VP.of (x0)), (1, VP.of (x1)), (2, VP.eq (.pointer (some ⟨p1, 0, none⟩))), (4, VP.eq (.pointer (some ⟨p2, 0, none⟩))), (5, VP.eq (.pointer (some ⟨p3, 0, none⟩))), (9, VP.of (s1.1))]) (fun s1 g1 => [⟨some p3, .var (s1.2 : Vector Bool 128)⟩, ⟨some p2, .var ((default : T_api_Value) : T_api_Value)⟩, ⟨some p1, .var (x0 : T_api_Value)⟩]) (fun q1 => Exit.exit 0) (fun q1 g1 => [(0, VP.of (x0)), (1, VP.of (x1)), (2, VP.eq (.pointer (some ⟨p1, 0, none⟩))), (4, VP.eq (.pointer (some ⟨p2, 0, none⟩))), (5, VP.eq (.pointer (some ⟨p3, 0, none⟩))), (9, VP.of (q1.1)), (10, VP.of (q1.2.1))]) (fun q1 g1 => [⟨some p3, .var (q1.2.2 : Vector Bool 128)⟩, ⟨some p2, .var ((default : T_api_Value) : T_api_Value)⟩, ⟨some p1, .var (x0 : T_api_Value)⟩]) () rfl (.same rfl (.same rfl (.same rfl (.same rfl (.same rfl (.same rfl .nil)))))) (fun s1 r h g1 => ?_) (fun g1 => ?_)
  · clear hl
    refine Wp.seq ?_
    refine Wp.reg ?_
    refine Sq.v (r_lss (look_t rfl) (look_int 128)) rfl rfl rfl ?_
    refine Sq.nil ?_
    refine To.next ?_
    refine Wp.seq ?_
    refine Wp.cond (look_t rfl) (fun hc => ?_) (fun hc => ?_)
    · replace h := cond_t hc h
      refine Wp.skip ?_
      refine To.next ?_
      refine Wp.seq ?_
      refine Wp.block ?_
      refine Wp.seq ?_
      refine Wp.reg ?_
      refine Sq.v (r_move (look_t rfl)) rfl rfl rfl ?_
      refine Sq.v (r_asg (look_t rfl)) rfl rfl rfl ?_
      refine Sq.nil ?_
      refine To.next ?_
      refine Wp.reg ?_
      refine Sq.v (r_move (look_t rfl)) rfl rfl rfl ?_
      refine Sq.v (r_move (look_t rfl)) rfl rfl rfl ?_
      refine Sq.v (r_move (look_t rfl)) rfl rfl rfl ?_
      obtain ⟨y2, hy2, h⟩ := bind_some h
      refine Sq.v (r_call en64 (C_ref01_clamp hy2) ⟨look_t rfl, trivial⟩) rfl rfl rfl ?_
      refine Sq.v (r_lss (look_t rfl) (look_t rfl)) rfl rfl rfl ?_
      refine Sq.v (r_move (look_t rfl)) rfl rfl rfl ?_
      refine Sq.g (fun hb => r_move (look_t rfl)) rfl rfl rfl rfl rfl ?_
      obtain ⟨k1, hk1, h⟩ := bind_some h
      refine Sq.g (fun hb => r_ia (k := k1) ar111 (look_t rfl) (look_tc rfl hb) (idx_some (condM_some hk1 hb))) rfl rfl rfl rfl rfl ?_
      refine Sq.g (fun hb => r_load (i := 0) ((Lens.id (Vector Bool 128)).comp (Lens.idx (α := Bool) 128 k1 (idx_some (condM_some hk1 hb)).1)) (r := vget s1.2 k1) ty4 (look_tc rfl hb) rfl rfl rfl) rfl rfl rfl rfl rfl ?_
      refine Sq.g (fun hb => r_not (look_tc rfl hb)) rfl rfl rfl rfl rfl ?_
      refine Sq.v (r_and (look_t rfl) (look_t rfl) (fun h => h)) rfl rfl rfl ?_
      obtain ⟨k2, hk2, h⟩ := bind_some h
      refine Sq.v (r_ia (k := k2) ar111 (look_t rfl) (look_t rfl) (idx_some hk2)) rfl rfl rfl ?_
      refine Sq.store (i := 0) ((Lens.id (Vector Bool 128)).comp (Lens.idx (α := Bool) 128 k2 (idx_some hk2).1)) (v := ((decide (s1.1 < y2)) && (!(vget s1.2 k1)) : Bool)) (b' := (vset s1.2 k2 ((decide (s1.1 < y2)) && (!(vget s1.2 k1))) : Vector Bool 128)) ty4 (look_t rfl) (look_t rfl) rfl rfl rfl ?_
      refine Sq.nil ?_
      refine To.bnorm ?_
      refine To.next ?_
      refine Wp.reg ?_
      refine Sq.v (r_add (look_t rfl) (look_int 1)) rfl rfl rfl ?_
      refine Sq.v (r_move (look_t rfl)) rfl rfl rfl ?_
      refine Sq.nil ?_
      replace h := some_in h
      subst h
      exact To.roundG () 0 rfl (.same rfl (.same rfl (.same rfl (.same rfl (.same rfl (.same rfl .nil))))))
    · replace h := cond_f hc h
      refine Wp.exit ?_
      refine To.exit ?_
      replace h := some_in h
      subst h
      exact To.leaveG () 0 rfl (by simp) rfl (.same rfl (.same rfl (.same rfl (.same rfl (.same rfl (.same rfl (.same rfl .nil)))))))
  · clear hl
    refine To.bexit ?_
    refine To.next ?_
    refine Wp.seq ?_
    refine Wp.reg ?_
    refine Sq.v (r_load (i := 0) (Lens.id (Vector Bool 128)) (r := e1.2.2) ty111 (look_t rfl) rfl rfl rfl) rfl rfl rfl ?_
    obtain ⟨y3, hy3, h⟩ := bind_some h
    refine Sq.v (r_call en63 (C_ref01_Make hy3) ⟨look_t rfl, trivial⟩) rfl rfl rfl ?_
    refine Sq.store (i := 1) (Lens.id T_api_Value) (v := (y3 : T_api_Value)) (b' := (y3 : T_api_Value)) ty24 (look_t rfl) (look_t rfl) rfl rfl rfl ?_
    refine Sq.nil ?_
    refine To.next ?_
    refine Wp.ret ?_
    replace h := some_in h
    subst h
    exact To.end1 rfl (rv_c (i := 1) ty24 rfl rfl)
set_option maxHeartbeats 2000000 in
theorem C_ref01_Or {x0 : T_api_Value} {x1 : T_api_Value} {r : T_api_Value} (h : L_ref01_Or x0 x1 = some r) : Meets Try.prog 22 [VP.of (x0), VP.of (x1)] (VP.of (r)) := by
  unfold L_ref01_Or at h
  refine Meets.of Try.func22 rfl Try.ntmps22 rfl fun W A => ?_
  refine Wp.seq ?_
  refine Wp.reg ?_
  refine Sq.box (z := (x0 : T_api_Value)) (look_t rfl) rfl fun p1 => ?_
  refine Sq.box (z := (x1 : T_api_Value)) (look_t rfl) rfl fun p2 => ?_
  refine Sq.alloc zr24 rfl fun p3 => ?_
  refine Sq.nil ?_
  refine To.next ?_
  refine Wp.seq ?_
  obtain ⟨y1, hy1, h⟩ := bind_some h
  obtain ⟨y2, hy2, h⟩ := bind_some h
  refine Wp.draw mixed 6 [some 8, some 9, some 10, some 11, some 5, some 6] [[], [0], [], [2], [], []] [.val (VP.of (x0)), .val (VP.of (y1)), .val (VP.of (x1)), .val (VP.of (y2)), .new (.var (default : Vector Bool 128)), .new (.var (default : Vector Bool 128))] [false, false, false, false, false, false] (by kernel_rfl) rfl rfl rfl (fun ps1 => ⟨fun L' hL => HO.v (r_load (i := 2) (Lens.id T_api_Value) (r := x0) ty24 (look_t rfl) (hL _ _ rfl rfl) rfl rfl) rfl, fun L' hL => HO.v (r_call en62 (C_ref01_Read hy1) ⟨look_t rfl, trivial⟩) rfl, fun L' hL => HO.v (r_load (i := 1) (Lens.id T_api_Value) (r := x1) ty24 (look_t rfl) (hL _ _ rfl rfl) rfl rfl) rfl, fun L' hL => HO.v (r_call en62 (C_ref01_Read hy2) ⟨look_t rfl, trivial⟩) rfl, ao_alloc zr111, ao_alloc zr111, trivial⟩) fun ps1 => ?_
  refine Sq.store (i := 0) (Lens.id (Vector Bool 128)) (v := (y1 : Vector Bool 128)) (b' := (y1 : Vector Bool 128)) ty111 (look_t rfl) (look_t rfl) rfl rfl rfl ?_
  refine Sq.store (i := 1) (Lens.id (Vector Bool 128)) (v := (y2 : Vector Bool 128)) (b' := (y2 : Vector Bool 128)) ty111 (look_t rfl) (look_t rfl) rfl rfl rfl ?_
  refine Sq.nil ?_
  refine To.next ?_
  refine Wp.seq ?_
  refine Wp.seq ?_
  refine Wp.reg ?_
  refine Sq.v (r_move (look_int 0)) rfl rfl rfl ?_
  refine Sq.nil ?_
  refine To.next ?_
  refine Wp.block ?_
  obtain ⟨e1, hl, h⟩ := bind_some h
  refine Wp.loopG (σ := Int × (Vector Bool 128)) (ε := (Int × Bool × (Vector Bool 128))) (γ := Unit) (δ := Unit) hl (fun s1 g1 => [(0, VP.of (x0)), (1, VP.of (x1)), (2, VP.eq (.pointer (some ⟨p1, 0, none⟩))), (3, VP.eq (.pointer (some ⟨p2, 0, none⟩))), (4, VP.eq (.pointer (some ⟨p3, 0, none⟩))), (5, VP.eq (.pointer (some ⟨(ps1 4), 0, none⟩))), (6, VP.eq (.pointer (some ⟨(ps1 5), 0, none⟩))), (12, VP.of (s1.1))]) (fun s1 g1 => [⟨some (ps1 4), .var (s1.2 : Vector Bool 128)⟩, ⟨some (ps1 5), .var (y2 : Vector Bool 128)⟩, ⟨some p3, .var ((default : T_api_Value) : T_api_Value)⟩, ⟨some p2, .var (x1 : T_api_Value)⟩, ⟨some p1, .var (x0 : T_api_Value)⟩]) (fun q1 => Exit.exit 0) (fun q1 g1 => [(0, VP.of (x0)), (1, VP.of (x1)), (2, VP.eq (.pointer (some ⟨p1, 0, none⟩))), (3, VP.eq (.pointer (some ⟨p2, 0, none⟩))), (4, VP.eq (.pointer (some ⟨p3, 0, none⟩))), (5, VP.eq (.pointer (some ⟨(ps1 4), 0, none⟩))), (6, VP.eq (.pointer (some ⟨(ps1 5), 0, none⟩))), (12, VP.of (q1.1)), (13, VP.of (q1.2.1))]) (fun q1 g1 => [⟨some (ps1 4), .var (q1.2.2 : Vector Bool 128)⟩, ⟨some (ps1 5), .var (y2 : Vector Bool 128)⟩, ⟨some p3, .var ((default : T_api_Value) : T_api_Value)⟩, ⟨some p2, .var (x1 : T_api_Value)⟩, ⟨some p1, .var (x0 : T_api_Value)⟩]) () rfl (.same rfl (.same rfl (.same rfl (.same rfl (.same rfl (.same rfl (.same rfl (.same rfl .nil)))))))) (fun s1 r h g1 => ?_) (fun g1 => ?_)
  · clear hl
    refine Wp.seq ?_
    refine Wp.reg ?_
    refine Sq.v (r_lss (look_t rfl) (look_int 128)) rfl rfl rfl ?_
    refine Sq.nil ?_
    refine To.next ?_
    refine Wp.seq ?_
    refine Wp.cond (look_t rfl) (fun hc => ?_) (fun hc => ?_)
    · replace h := cond_t hc h
      refine Wp.skip ?_
      refine To.next ?_
      refine Wp.seq ?_
      refine Wp.block ?_
      refine Wp.seq ?_
      refine Wp.reg ?_
      refine Sq.v (r_move (look_t rfl)) rfl rfl rfl ?_
      refine Sq.v (r_asg (look_t rfl)) rfl rfl rfl ?_
      refine Sq.nil ?_
      refine To.next ?_
      refine Wp.reg ?_
      refine Sq.v (r_move (look_t rfl)) rfl rfl rfl ?_
      refine Sq.v (r_move (look_t rfl)) rfl rfl rfl ?_
      obtain ⟨k1, hk1, h⟩ := bind_some h
      refine Sq.v (r_ia (k := k1) ar111 (look_t rfl) (look_t rfl) (idx_some hk1)) rfl rfl rfl ?_
      refine Sq.v (r_load (i := 0) ((Lens.id (Vector Bool 128)).comp (Lens.idx (α := Bool) 128 k1 (idx_some hk1).1)) (r := vget s1.2 k1) ty4 (look_t rfl) rfl rfl rfl) rfl rfl rfl ?_
      refine Sq.v (r_move (look_t rfl)) rfl rfl rfl ?_
      refine Sq.g (fun hb => r_move (look_t rfl)) rfl rfl rfl rfl rfl ?_
      obtain ⟨k2, hk2, h⟩ := bind_some h
      refine Sq.g (fun hb => r_ia (k := k2) ar111 (look_t rfl) (look_tc rfl hb) (idx_some (condM_some hk2 hb))) rfl rfl rfl rfl rfl ?_
      refine Sq.g (fun hb => r_load (i := 1) ((Lens.id (Vector Bool 128)).comp (Lens.idx (α := Bool) 128 k2 (idx_some (condM_some hk2 hb)).1)) (r := vget y2 k2) ty4 (look_tc rfl hb) rfl rfl rfl) rfl rfl rfl rfl rfl ?_
      refine Sq.v (r_or (look_t rfl) (look_t rfl) (fun h => h)) rfl rfl rfl ?_
      obtain ⟨k3, hk3, h⟩ := bind_some h
      refine Sq.v (r_ia (k := k3) ar111 (look_t rfl) (look_t rfl) (idx_some hk3)) rfl rfl rfl ?_
      refine Sq.store (i := 0) ((Lens.id (Vector Bool 128)).comp (Lens.idx (α := Bool) 128 k3 (idx_some hk3).1)) (v := ((vget s1.2 k1) || (vget y2 k2) : Bool)) (b' := (vset s1.2 k3 ((vget s1.2 k1) || (vget y2 k2)) : Vector Bool 128)) ty4 (look_t rfl) (look_t rfl) rfl rfl rfl ?_
      refine Sq.nil ?_
      refine To.bnorm ?_
      refine To.next ?_
      refine Wp.reg ?_
      refine Sq.v (r_add (look_t rfl) (look_int 1)) rfl rfl rfl ?_
      refine Sq.v (r_move (look_t rfl)) rfl rfl rfl ?_
      refine Sq.nil ?_
      replace h := some_in h
      subst h
      exact To.roundG () 0 rfl (.same rfl (.same rfl (.same rfl (.same rfl (.same rfl (.same rfl (.same rfl (.same rfl .nil))))))))
    · replace h := cond_f hc h
      refine Wp.exit ?_
      refine To.exit ?_
      replace h := some_in h
      subst h
      exact To.leaveG () 0 rfl (by simp) rfl (.same rfl (.same rfl (.same rfl (.same rfl (.same rfl (.same rfl (.same rfl (.same rfl (.same rfl .nil)))))))))
  · clear hl
    refine To.bexit ?_
    refine To.next ?_
    refine Wp.seq ?_
    refine Wp.reg ?_
    refine Sq.v (r_load (i := 0) (Lens.id (Vector Bool 128)) (r := e1.2.2) ty111 (look_t rfl) rfl rfl rfl) rfl rfl rfl ?_
    obtain ⟨y3, hy3, h⟩ := bind_some h
    refine Sq.v (r_call en63 (C_ref01_Make hy3) ⟨look_t rfl, trivial⟩) rfl rfl rfl ?_
    refine Sq.store (i := 2) (Lens.id T_api_Value) (v := (y3 : T_api_Value)) (b' := (y3 : T_api_Value)) ty24 (look_t rfl) (look_t rfl) rfl rfl rfl ?_
    refine Sq.nil ?_
    refine To.next ?_
    refine Wp.ret ?_
    replace h := some_in h
    subst h
    exact To.end1 rfl (rv_c (i := 2) ty24 rfl rfl)
set_option maxHeartbeats 2000000 in
theorem C_cube_Contains {x0 : T_cube_Cube} {x1 : Vector T_api_Value 4} {r : Bool} (h : L_cube_Contains x0 x1 = some r) : Meets Try.prog 25 [VP.of (x0), VP.of (x1)] (VP.of (r)) := by
  unfold L_cube_Contains at h
  refine Meets.of Try.func25 rfl Try.ntmps25 rfl fun W A => ?_
  refine Wp.seq ?_
  refine Wp.reg ?_
  refine Sq.box (z := (x0 : T_cube_Cube)) (look_t rfl) rfl fun p1 => ?_
  refine Sq.box (z := (x1 : Vector T_api_Value 4)) (look_t rfl) rfl fun p2 => ?_
  refine Sq.v (r_asg (look_bool false)) rfl rfl rfl ?_
  refine Sq.nil ?_
  refine To.next ?_
  refine Wp.seq ?_
  obtain ⟨y1, hy1, h⟩ := bind_some h
  refine Wp.draw mixed 7 [some 5, some 6, some 7, some 8, some 9, some 10, some 11] [[], [], [1], [0, 2], [], [4], [3, 5]] [.val (VP.of (x1)), .val (VP.eq (.pointer (some ⟨p1, 0 + 8, none⟩))), .val (VP.of (x0.f_Mask)), .val (VP.of (y1)), .val (VP.eq (.pointer (some ⟨p1, 0 + 0, none⟩))), .val (VP.of (x0.f_Value)), .val (VP.of (decide (y1 = x0.f_Value)))] [false, false, false, false, false, false, false] (by kernel_rfl) rfl rfl rfl (fun ps1 => ⟨fun L' hL => HO.v (r_load (i := 0) (Lens.id (Vector T_api_Value 4)) (r := x1) ty26 (look_t rfl) (hL _ _ rfl rfl) rfl rfl) rfl, fun L' hL => HO.v (r_fa fd28_1 (look_t rfl)) rfl, fun L' hL => HO.v (r_load (i := 1) ((Lens.id T_cube_Cube).comp le_T_cube_Cube_Mask) (r := x0.f_Mask) ty26 (look_t rfl) (hL _ _ rfl rfl) rfl rfl) rfl, fun L' hL => HO.v (r_call en52 (C_cube_combined hy1) ⟨look_t rfl, look_t rfl, look_fn2 en56 (fun _ _ _ => C_value_And), trivial⟩) rfl, fun L' hL => HO.v (r_fa fd28_0 (look_t rfl)) rfl, fun L' hL => HO.v (r_load (i := 1) ((Lens.id T_cube_Cube).comp le_T_cube_Cube_Value) (r := x0.f_Value) ty26 (look_t rfl) (hL _ _ rfl rfl) rfl rfl) rfl, fun L' hL => HO.v (r_eqA eqv26 rfl eqg26 rfl (look_t rfl) (look_t rfl)) rfl, trivial⟩) fun ps1 => ?_
  refine Sq.v (r_asg (look_t rfl)) rfl rfl rfl ?_
  refine Sq.nil ?_
  refine To.next ?_
  refine Wp.ret ?_
  replace h := some_in h
  subst h
  exact To.end1 rfl (rv_t rfl)
end Go.Proofs.Ytabodolbdalimaa
