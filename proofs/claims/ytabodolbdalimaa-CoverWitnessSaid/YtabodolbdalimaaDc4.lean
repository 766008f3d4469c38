/-
  Printed by the decompiler (dec.py) out of the seat's translation. Each function meets its functional program. Conditions: none.
-/
import Derived.Test.YtabodolbdalimaaDc0
import Derived.Test.YtabodolbdalimaaDc1
import Derived.Test.YtabodolbdalimaaDc2
namespace Go.Proofs.Ytabodolbdalimaa
open Go Gv
set_option linter.unusedVariables false
set_option linter.unusedSimpArgs false
set_option maxRecDepth 100000
set_option maxHeartbeats 2000000 in
theorem C_cube_Free {x0 : T_cube_Cube}  {r : Int} (h : L_cube_Free x0 = some r) : Meets Try.prog 30 [VP.of (x0)] (VP.of (r)) := by
  unfold L_cube_Free at h
  refine Meets.of Try.func30 rfl Try.ntmps30 rfl fun W A => ?_
  refine Wp.seq ?_
  refine Wp.reg ?_
  refine Sq.box (z := (x0 : T_cube_Cube)) (look_t rfl) rfl fun p1 => ?_
  refine Sq.v (r_asg (look_int 0)) rfl rfl rfl ?_
  refine Sq.nil ?_
  refine To.next ?_
  refine Wp.seq ?_
  refine Wp.reg ?_
  refine Sq.v (r_asg (look_int 512)) rfl rfl rfl ?_
  refine Sq.nil ?_
  refine To.next ?_
  refine Wp.seq ?_
  refine Wp.seq ?_
  refine Wp.reg ?_
  refine Sq.v (r_fa fd28_1 (look_t rfl)) rfl rfl rfl ?_
  refine Sq.v (r_load (i := 0) ((Lens.id T_cube_Cube).comp le_T_cube_Cube_Mask) (r := x0.f_Mask) ty26 (look_t rfl) rfl rfl rfl) rfl rfl rfl ?_
  refine Sq.v (r_move (look_int 0)) rfl rfl rfl ?_
  refine Sq.nil ?_
  refine To.next ?_
  refine Wp.block ?_
  obtain ⟨e1, hl, h⟩ := bind_some h
  refine Wp.loopG (σ := Int × Int) (ε := (Int × Int × Bool)) (γ := Unit) (δ := Unit) hl (fun s1 g1 => [(0, VP.of (x0)), (1, VP.eq (.pointer (some ⟨p1, 0, none⟩))), (2, VP.of (0 : Int)), (3, VP.of (s1.1)), (7, VP.of (x0.f_Mask)), (8, VP.of (s1.2))]) (fun s1 g1 => [⟨some p1, .var (x0 : T_cube_Cube)⟩]) (fun q1 => Exit.exit 0) (fun q1 g1 => [(0, VP.of (x0)), (1, VP.eq (.pointer (some ⟨p1, 0, none⟩))), (2, VP.of (0 : Int)), (3, VP.of (q1.1)), (7, VP.of (x0.f_Mask)), (8, VP.of (q1.2.1)), (9, VP.of (q1.2.2))]) (fun q1 g1 => [⟨some p1, .var (x0 : T_cube_Cube)⟩]) () rfl (.same rfl (.same rfl (.same rfl (.same rfl (.same rfl (.same rfl .nil)))))) (fun s1 r h g1 => ?_) (fun g1 => ?_)
  · clear hl
    refine Wp.seq ?_
    refine Wp.reg ?_
    refine Sq.v (r_lss (look_t rfl) (look_int 4)) rfl rfl rfl ?_
    refine Sq.nil ?_
    refine To.next ?_
    refine Wp.seq ?_
    refine Wp.cond (look_t rfl) (fun hc => ?_) (fun hc => ?_)
    · replace h := cond_t hc h
      refine Wp.skip ?_
      refine To.next ?_
      refine Wp.seq ?_
      refine Wp.block ?_
      refine Wp.seq ?_
      refine Wp.reg ?_
      obtain ⟨k1, hk1, h⟩ := bind_some h
      refine Sq.v (r_index (k := k1) Try.underlying26 ty24 (look_t rfl) (look_t rfl) (idx_some hk1)) rfl rfl rfl ?_
      refine Sq.alloc zr24 rfl fun p2 => ?_
      refine Sq.store (i := 0) (Lens.id T_api_Value) (v := (vget x0.f_Mask k1 : T_api_Value)) (b' := (vget x0.f_Mask k1 : T_api_Value)) ty24 (look_t rfl) (look_t rfl) rfl rfl rfl ?_
      refine Sq.nil ?_
      refine To.next ?_
      obtain ⟨y1, hy1, h⟩ := bind_some h
      obtain ⟨y2, hy2, h⟩ := bind_some h
      refine Wp.draw mixed 9 [some 11, some 12, some 13, some 14, some 15, some 16, some 17, some 18, some 19] [[], [], [1], [2], [], [4], [5], [3, 6], [0, 7]] [.val (VP.of (s1.1)), .val (VP.eq (.pointer (some ⟨p2, 0 + 0, none⟩))), .val (VP.of ((vget x0.f_Mask k1).f_Hi)), .val (VP.of (y1)), .val (VP.eq (.pointer (some ⟨p2, 0 + 1, none⟩))), .val (VP.of ((vget x0.f_Mask k1).f_Lo)), .val (VP.of (y2)), .val (VP.of (w64 (y1 + y2))), .val (VP.of (w64 (s1.1 - (w64 (y1 + y2)))))] [false, false, false, false, false, false, false, false, false] (by kernel_rfl) rfl rfl rfl (fun ps1 => ⟨fun L' hL => HO.v (r_move (look_t rfl)) rfl, fun L' hL => HO.v (r_fa fd24_0 (look_t rfl)) rfl, fun L' hL => HO.v (r_load (i := 0) ((Lens.id T_api_Value).comp le_T_api_Value_Hi) (r := (vget x0.f_Mask k1).f_Hi) ty22 (look_t rfl) (hL _ _ rfl rfl) rfl rfl) rfl, fun L' hL => HO.v (r_call en66 (C_math_bits_OnesCount64 hy1) ⟨look_t rfl, trivial⟩) rfl, fun L' hL => HO.v (r_fa fd24_1 (look_t rfl)) rfl, fun L' hL => HO.v (r_load (i := 0) ((Lens.id T_api_Value).comp le_T_api_Value_Lo) (r := (vget x0.f_Mask k1).f_Lo) ty22 (look_t rfl) (hL _ _ rfl rfl) rfl rfl) rfl, fun L' hL => HO.v (r_call en66 (C_math_bits_OnesCount64 hy2) ⟨look_t rfl, trivial⟩) rfl, fun L' hL => HO.v (r_add (look_t rfl) (look_t rfl)) rfl, fun L' hL => HO.v (r_sub (look_t rfl) (look_t rfl)) rfl, trivial⟩) fun ps1 => ?_
      refine Sq.v (r_asg (look_t rfl)) rfl rfl rfl ?_
      refine Sq.nil ?_
      refine To.bnorm ?_
      refine To.next ?_
      refine Wp.reg ?_
      refine Sq.v (r_add (look_t rfl) (look_int 1)) rfl rfl rfl ?_
      refine Sq.v (r_move (look_t rfl)) rfl rfl rfl ?_
      refine Sq.nil ?_
      replace h := some_in h
      subst h
      exact To.roundG () 1 rfl (.same rfl (.same rfl (.same rfl (.same rfl (.same rfl (.same rfl .nil))))))
    · replace h := cond_f hc h
      refine Wp.exit ?_
      refine To.exit ?_
      replace h := some_in h
      subst h
      exact To.leaveG () 0 rfl (by simp) rfl (.same rfl (.same rfl (.same rfl (.same rfl (.same rfl (.same rfl (.same rfl .nil)))))))
  · clear hl
    refine To.bexit ?_
    refine To.next ?_
    refine Wp.seq ?_
    refine Wp.reg ?_
    refine Sq.v (r_move (look_t rfl)) rfl rfl rfl ?_
    refine Sq.v (r_asg (look_t rfl)) rfl rfl rfl ?_
    refine Sq.nil ?_
    refine To.next ?_
    refine Wp.ret ?_
    replace h := some_in h
    subst h
    exact To.end1 rfl (rv_t rfl)
set_option maxHeartbeats 2000000 in
theorem C_ref01_Not {x0 : T_api_Value} {x1 : Int}  {r : T_api_Value} (h : L_ref01_Not x0 x1 = some r) : Meets Try.prog 24 [VP.of (x0), VP.of (x1)] (VP.of (r)) := by
  unfold L_ref01_Not at h
  refine Meets.of Try.func24 rfl Try.ntmps24 rfl fun W A => ?_
  refine Wp.seq ?_
  refine Wp.reg ?_
  refine Sq.box (z := (x0 : T_api_Value)) (look_t rfl) rfl fun p1 => ?_
  refine Sq.alloc zr24 rfl fun p2 => ?_
  refine Sq.nil ?_
  refine To.next ?_
  refine Wp.seq ?_
  refine Wp.reg ?_
  refine Sq.v (r_load (i := 1) (Lens.id T_api_Value) (r := x0) ty24 (look_t rfl) rfl rfl rfl) rfl rfl rfl ?_
  obtain ⟨y1, hy1, h⟩ := bind_some h
  refine Sq.v (r_call en62 (C_ref01_Read hy1) ⟨look_t rfl, trivial⟩) rfl rfl rfl ?_
  refine Sq.alloc zr111 rfl fun p3 => ?_
  refine Sq.store (i := 0) (Lens.id (Vector Bool 128)) (v := (y1 : Vector Bool 128)) (b' := (y1 : Vector Bool 128)) ty111 (look_t rfl) (look_t rfl) rfl rfl rfl ?_
  refine Sq.nil ?_
  refine To.next ?_
  refine Wp.seq ?_
  refine Wp.seq ?_
  refine Wp.reg ?_
  refine Sq.v (r_move (look_int 0)) rfl rfl rfl ?_
  refine Sq.nil ?_
  refine To.next ?_
  refine Wp.block ?_
  obtain ⟨e1, hl, h⟩ := bind_some h
  refine Wp.loopG (σ := Int × (Vector Bool 128)) (ε := (Int × Bool × (Vector Bool 128))) (γ := Unit) (δ := Unit) hl (fun s1 g1 => [(0, VP.of (x0)), (1, VP.of (x1)), (2, VP.eq (.pointer (some ⟨p1, 0, none⟩))), (4, VP.eq (.pointer (some ⟨p2, 0, none⟩))), (5, VP.eq (.pointer (some ⟨p3, 0, none⟩))), (9, VP.of (s1.1))]) (fun s1 g1 => [⟨some p3, .var (s1.2 : Vector Bool 128)⟩, ⟨some p2, .var ((default : T_api_Value) : T_api_Value)⟩, ⟨some p1, .var (x0 : T_api_Value)⟩]) (fun q1 => Exit.exit 0) (fun q1 g1 => [(0, VP.of (x0)), (1, VP.of (x1)), (2, VP.eq (.pointer (some ⟨p1, 0, none⟩))), (4, VP.eq (.pointer (some ⟨p2, 0, none⟩))), (5, VP.eq (.pointer (some ⟨p3, 0, none⟩))), (9, VP.of (q1.1)), (10, VP.of (q1.2.1))]) (fun q1 g1 => [⟨some p3, .var (q1.2.2 : Vector Bool 128)⟩, ⟨some p2, .var ((default : T_api_Value) : T_api_Value)⟩, ⟨some p1, .var (x0 : T_api_Value)⟩]) () rfl (.same rfl (.same rfl (.same rfl (.same rfl (.same rfl (.same rfl .nil)))))) (fun s1 r h g1 => ?_) (fun g1 => ?_)
  · clear hl
    refine Wp.seq ?_
    refine Wp.reg ?_
    refine Sq.v (r_lss (look_t rfl) (look_int 128)) rfl rfl rfl ?_
    refine Sq.nil ?_
    refine To.next ?_
    refine Wp.seq ?_
    refine Wp.cond (look_t rfl) (fun hc => ?_) (fun hc => ?_)
    · replace h := cond_t hc h
      refine Wp.skip ?_
      refine To.next ?_
      refine Wp.seq ?_
      refine Wp.block ?_
      refine Wp.seq ?_
      refine Wp.reg ?_
      refine Sq.v (r_move (look_t rfl)) rfl rfl rfl ?_
      refine Sq.v (r_asg (look_t rfl)) rfl rfl rfl ?_
      refine Sq.nil ?_
      refine To.next ?_
      refine Wp.reg ?_
      refine Sq.v (r_move (look_t rfl)) rfl rfl rfl ?_
      refine Sq.v (r_move (look_t rfl)) rfl rfl rfl ?_
      refine Sq.v (r_move (look_t rfl)) rfl rfl rfl ?_
      obtain ⟨y2, hy2, h⟩ := bind_some h
      refine Sq.v (r_call en64 (C_ref01_clamp hy2) ⟨look_t rfl, trivial⟩) rfl rfl rfl ?_
      refine Sq.v (r_lss (look_t rfl) (look_t rfl)) rfl rfl rfl ?_
      refine Sq.v (r_move (look_t rfl)) rfl rfl rfl ?_
      refine Sq.g (fun hb => r_move (look_t rfl)) rfl rfl rfl rfl rfl ?_
      obtain ⟨k1, hk1, h⟩ := bind_some h
      refine Sq.g (fun hb => r_ia (k := k1) ar111 (look_t rfl) (look_tc rfl hb) (idx_some (condM_some hk1 hb))) rfl rfl rfl rfl rfl ?_
      refine Sq.g (fun hb => r_load (i := 0) ((Lens.id (Vector Bool 128)).comp (Lens.idx (α := Bool) 128 k1 (idx_some (condM_some hk1 hb)).1)) (r := vget s1.2 k1) ty4 (look_tc rfl hb) rfl rfl rfl) rfl rfl rfl rfl rfl ?_
      refine Sq.g (fun hb => r_not (look_tc rfl hb)) rfl rfl rfl rfl rfl ?_
      refine Sq.v (r_and (look_t rfl) (look_t rfl) (fun h => h)) rfl rfl rfl ?_
      obtain ⟨k2, hk2, h⟩ := bind_some h
      refine Sq.v (r_ia (k := k2) ar111 (look_t rfl) (look_t rfl) (idx_some hk2)) rfl rfl rfl ?_
      refine Sq.store (i := 0) ((Lens.id (Vector Bool 128)).comp (Lens.idx (α := Bool) 128 k2 (idx_some hk2).1)) (v := ((decide (s1.1 < y2)) && (!(vget s1.2 k1)) : Bool)) (b' := (vset s1.2 k2 ((decide (s1.1 < y2)) && (!(vget s1.2 k1))) : Vector Bool 128)) ty4 (look_t rfl) (look_t rfl) rfl rfl rfl ?_
      refine Sq.nil ?_
      refine To.bnorm ?_
      refine To.next ?_
      refine Wp.reg ?_
      refine Sq.v (r_add (look_t rfl) (look_int 1)) rfl rfl rfl ?_
      refine Sq.v (r_move (look_t rfl)) rfl rfl rfl ?_
      refine Sq.nil ?_
      replace h := some_in h
      subst h
      exact To.roundG () 0 rfl (.same rfl (.same rfl (.same rfl (.same rfl (.same rfl (.same rfl .nil))))))
    · replace h := cond_f hc h
      refine Wp.exit ?_
      refine To.exit ?_
      replace h := some_in h
      subst h
      exact To.leaveG () 0 rfl (by simp) rfl (.same rfl (.same rfl (.same rfl (.same rfl (.same rfl (.same rfl (.same rfl .nil)))))))
  · clear hl
    refine To.bexit ?_
    refine To.next ?_
    refine Wp.seq ?_
    refine Wp.reg ?_
    refine Sq.v (r_load (i := 0) (Lens.id (Vector Bool 128)) (r := e1.2.2) ty111 (look_t rfl) rfl rfl rfl) rfl rfl rfl ?_
    obtain ⟨y3, hy3, h⟩ := bind_some h
    refine Sq.v (r_call en63 (C_ref01_Make hy3) ⟨look_t rfl, trivial⟩) rfl rfl rfl ?_
    refine Sq.store (i := 1) (Lens.id T_api_Value) (v := (y3 : T_api_Value)) (b' := (y3 : T_api_Value)) ty24 (look_t rfl) (look_t rfl) rfl rfl rfl ?_
    refine Sq.nil ?_
    refine To.next ?_
    refine Wp.ret ?_
    replace h := some_in h
    subst h
    exact To.end1 rfl (rv_c (i := 1) ty24 rfl rfl)
set_option maxHeartbeats 2000000 in
theorem C_ref01_Or {x0 : T_api_Value} {x1 : T_api_Value}  {r : T_api_Value} (h : L_ref01_Or x0 x1 = some r) : Meets Try.prog 22 [VP.of (x0), VP.of (x1)] (VP.of (r)) := by
  unfold L_ref01_Or at h
  refine Meets.of Try.func22 rfl Try.ntmps22 rfl fun W A => ?_
  refine Wp.seq ?_
  refine Wp.reg ?_
  refine Sq.box (z := (x0 : T_api_Value)) (look_t rfl) rfl fun p1 => ?_
  refine Sq.box (z := (x1 : T_api_Value)) (look_t rfl) rfl fun p2 => ?_
  refine Sq.alloc zr24 rfl fun p3 => ?_
  refine Sq.nil ?_
  refine To.next ?_
  refine Wp.seq ?_
  obtain ⟨y1, hy1, h⟩ := bind_some h
  obtain ⟨y2, hy2, h⟩ := bind_some h
  refine Wp.draw mixed 6 [some 8, some 9, some 10, some 11, some 5, some 6] [[], [0], [], [2], [], []] [.val (VP.of (x0)), .val (VP.of (y1)), .val (VP.of (x1)), .val (VP.of (y2)), .new (.var (default : Vector Bool 128)), .new (.var (default : Vector Bool 128))] [false, false, false, false, false, false] (by kernel_rfl) rfl rfl rfl (fun ps1 => ⟨fun L' hL => HO.v (r_load (i := 2) (Lens.id T_api_Value) (r := x0) ty24 (look_t rfl) (hL _ _ rfl rfl) rfl rfl) rfl, fun L' hL => HO.v (r_call en62 (C_ref01_Read hy1) ⟨look_t rfl, trivial⟩) rfl, fun L' hL => HO.v (r_load (i := 1) (Lens.id T_api_Value) (r := x1) ty24 (look_t rfl) (hL _ _ rfl rfl) rfl rfl) rfl, fun L' hL => HO.v (r_call en62 (C_ref01_Read hy2) ⟨look_t rfl, trivial⟩) rfl, ao_alloc zr111, ao_alloc zr111, trivial⟩) fun ps1 => ?_
  refine Sq.store (i := 0) (Lens.id (Vector Bool 128)) (v := (y1 : Vector Bool 128)) (b' := (y1 : Vector Bool 128)) ty111 (look_t rfl) (look_t rfl) rfl rfl rfl ?_
  refine Sq.store (i := 1) (Lens.id (Vector Bool 128)) (v := (y2 : Vector Bool 128)) (b' := (y2 : Vector Bool 128)) ty111 (look_t rfl) (look_t rfl) rfl rfl rfl ?_
  refine Sq.nil ?_
  refine To.next ?_
  refine Wp.seq ?_
  refine Wp.seq ?_
  refine Wp.reg ?_
  refine Sq.v (r_move (look_int 0)) rfl rfl rfl ?_
  refine Sq.nil ?_
  refine To.next ?_
  refine Wp.block ?_
  obtain ⟨e1, hl, h⟩ := bind_some h
  refine Wp.loopG (σ := Int × (Vector Bool 128)) (ε := (Int × Bool × (Vector Bool 128))) (γ := Unit) (δ := Unit) hl (fun s1 g1 => [(0, VP.of (x0)), (1, VP.of (x1)), (2, VP.eq (.pointer (some ⟨p1, 0, none⟩))), (3, VP.eq (.pointer (some ⟨p2, 0, none⟩))), (4, VP.eq (.pointer (some ⟨p3, 0, none⟩))), (5, VP.eq (.pointer (some ⟨(ps1 4), 0, none⟩))), (6, VP.eq (.pointer (some ⟨(ps1 5), 0, none⟩))), (12, VP.of (s1.1))]) (fun s1 g1 => [⟨some (ps1 4), .var (s1.2 : Vector Bool 128)⟩, ⟨some (ps1 5), .var (y2 : Vector Bool 128)⟩, ⟨some p3, .var ((default : T_api_Value) : T_api_Value)⟩, ⟨some p2, .var (x1 : T_api_Value)⟩, ⟨some p1, .var (x0 : T_api_Value)⟩]) (fun q1 => Exit.exit 0) (fun q1 g1 => [(0, VP.of (x0)), (1, VP.of (x1)), (2, VP.eq (.pointer (some ⟨p1, 0, none⟩))), (3, VP.eq (.pointer (some ⟨p2, 0, none⟩))), (4, VP.eq (.pointer (some ⟨p3, 0, none⟩))), (5, VP.eq (.pointer (some ⟨(ps1 4), 0, none⟩))), (6, VP.eq (.pointer (some ⟨(ps1 5), 0, none⟩))), (12, VP.of (q1.1)), (13, VP.of (q1.2.1))]) (fun q1 g1 => [⟨some (ps1 4), .var (q1.2.2 : Vector Bool 128)⟩, ⟨some (ps1 5), .var (y2 : Vector Bool 128)⟩, ⟨some p3, .var ((default : T_api_Value) : T_api_Value)⟩, ⟨some p2, .var (x1 : T_api_Value)⟩, ⟨some p1, .var (x0 : T_api_Value)⟩]) () rfl (.same rfl (.same rfl (.same rfl (.same rfl (.same rfl (.same rfl (.same rfl (.same rfl .nil)))))))) (fun s1 r h g1 => ?_) (fun g1 => ?_)
  · clear hl
    refine Wp.seq ?_
    refine Wp.reg ?_
    refine Sq.v (r_lss (look_t rfl) (look_int 128)) rfl rfl rfl ?_
    refine Sq.nil ?_
    refine To.next ?_
    refine Wp.seq ?_
    refine Wp.cond (look_t rfl) (fun hc => ?_) (fun hc => ?_)
    · replace h := cond_t hc h
      refine Wp.skip ?_
      refine To.next ?_
      refine Wp.seq ?_
      refine Wp.block ?_
      refine Wp.seq ?_
      refine Wp.reg ?_
      refine Sq.v (r_move (look_t rfl)) rfl rfl rfl ?_
      refine Sq.v (r_asg (look_t rfl)) rfl rfl rfl ?_
      refine Sq.nil ?_
      refine To.next ?_
      refine Wp.reg ?_
      refine Sq.v (r_move (look_t rfl)) rfl rfl rfl ?_
      refine Sq.v (r_move (look_t rfl)) rfl rfl rfl ?_
      obtain ⟨k1, hk1, h⟩ := bind_some h
      refine Sq.v (r_ia (k := k1) ar111 (look_t rfl) (look_t rfl) (idx_some hk1)) rfl rfl rfl ?_
      refine Sq.v (r_load (i := 0) ((Lens.id (Vector Bool 128)).comp (Lens.idx (α := Bool) 128 k1 (idx_some hk1).1)) (r := vget s1.2 k1) ty4 (look_t rfl) rfl rfl rfl) rfl rfl rfl ?_
      refine Sq.v (r_move (look_t rfl)) rfl rfl rfl ?_
      refine Sq.g (fun hb => r_move (look_t rfl)) rfl rfl rfl rfl rfl ?_
      obtain ⟨k2, hk2, h⟩ := bind_some h
      refine Sq.g (fun hb => r_ia (k := k2) ar111 (look_t rfl) (look_tc rfl hb) (idx_some (condM_some hk2 hb))) rfl rfl rfl rfl rfl ?_
      refine Sq.g (fun hb => r_load (i := 1) ((Lens.id (Vector Bool 128)).comp (Lens.idx (α := Bool) 128 k2 (idx_some (condM_some hk2 hb)).1)) (r := vget y2 k2) ty4 (look_tc rfl hb) rfl rfl rfl) rfl rfl rfl rfl rfl ?_
      refine Sq.v (r_or (look_t rfl) (look_t rfl) (fun h => h)) rfl rfl rfl ?_
      obtain ⟨k3, hk3, h⟩ := bind_some h
      refine Sq.v (r_ia (k := k3) ar111 (look_t rfl) (look_t rfl) (idx_some hk3)) rfl rfl rfl ?_
      refine Sq.store (i := 0) ((Lens.id (Vector Bool 128)).comp (Lens.idx (α := Bool) 128 k3 (idx_some hk3).1)) (v := ((vget s1.2 k1) || (vget y2 k2) : Bool)) (b' := (vset s1.2 k3 ((vget s1.2 k1) || (vget y2 k2)) : Vector Bool 128)) ty4 (look_t rfl) (look_t rfl) rfl rfl rfl ?_
      refine Sq.nil ?_
      refine To.bnorm ?_
      refine To.next ?_
      refine Wp.reg ?_
      refine Sq.v (r_add (look_t rfl) (look_int 1)) rfl rfl rfl ?_
      refine Sq.v (r_move (look_t rfl)) rfl rfl rfl ?_
      refine Sq.nil ?_
      replace h := some_in h
      subst h
      exact To.roundG () 0 rfl (.same rfl (.same rfl (.same rfl (.same rfl (.same rfl (.same rfl (.same rfl (.same rfl .nil))))))))
    · replace h := cond_f hc h
      refine Wp.exit ?_
      refine To.exit ?_
      replace h := some_in h
      subst h
      exact To.leaveG () 0 rfl (by simp) rfl (.same rfl (.same rfl (.same rfl (.same rfl (.same rfl (.same rfl (.same rfl (.same rfl (.same rfl .nil)))))))))
  · clear hl
    refine To.bexit ?_
    refine To.next ?_
    refine Wp.seq ?_
    refine Wp.reg ?_
    refine Sq.v (r_load (i := 0) (Lens.id (Vector Bool 128)) (r := e1.2.2) ty111 (look_t rfl) rfl rfl rfl) rfl rfl rfl ?_
    obtain ⟨y3, hy3, h⟩ := bind_some h
    refine Sq.v (r_call en63 (C_ref01_Make hy3) ⟨look_t rfl, trivial⟩) rfl rfl rfl ?_
    refine Sq.store (i := 2) (Lens.id T_api_Value) (v := (y3 : T_api_Value)) (b' := (y3 : T_api_Value)) ty24 (look_t rfl) (look_t rfl) rfl rfl rfl ?_
    refine Sq.nil ?_
    refine To.next ?_
    refine Wp.ret ?_
    replace h := some_in h
    subst h
    exact To.end1 rfl (rv_c (i := 2) ty24 rfl rfl)
set_option maxHeartbeats 2000000 in
theorem C_cube_Contains {x0 : T_cube_Cube} {x1 : Vector T_api_Value 4}  {r : Bool} (h : L_cube_Contains x0 x1 = some r) : Meets Try.prog 25 [VP.of (x0), VP.of (x1)] (VP.of (r)) := by
  unfold L_cube_Contains at h
  refine Meets.of Try.func25 rfl Try.ntmps25 rfl fun W A => ?_
  refine Wp.seq ?_
  refine Wp.reg ?_
  refine Sq.box (z := (x0 : T_cube_Cube)) (look_t rfl) rfl fun p1 => ?_
  refine Sq.box (z := (x1 : Vector T_api_Value 4)) (look_t rfl) rfl fun p2 => ?_
  refine Sq.v (r_asg (look_bool false)) rfl rfl rfl ?_
  refine Sq.nil ?_
  refine To.next ?_
  refine Wp.seq ?_
  obtain ⟨y1, hy1, h⟩ := bind_some h
  refine Wp.draw mixed 7 [some 5, some 6, some 7, some 8, some 9, some 10, some 11] [[], [], [1], [0, 2], [], [4], [3, 5]] [.val (VP.of (x1)), .val (VP.eq (.pointer (some ⟨p1, 0 + 8, none⟩))), .val (VP.of (x0.f_Mask)), .val (VP.of (y1)), .val (VP.eq (.pointer (some ⟨p1, 0 + 0, none⟩))), .val (VP.of (x0.f_Value)), .val (VP.of (decide (y1 = x0.f_Value)))] [false, false, false, false, false, false, false] (by kernel_rfl) rfl rfl rfl (fun ps1 => ⟨fun L' hL => HO.v (r_load (i := 0) (Lens.id (Vector T_api_Value 4)) (r := x1) ty26 (look_t rfl) (hL _ _ rfl rfl) rfl rfl) rfl, fun L' hL => HO.v (r_fa fd28_1 (look_t rfl)) rfl, fun L' hL => HO.v (r_load (i := 1) ((Lens.id T_cube_Cube).comp le_T_cube_Cube_Mask) (r := x0.f_Mask) ty26 (look_t rfl) (hL _ _ rfl rfl) rfl rfl) rfl, fun L' hL => HO.v (r_call en52 (C_cube_combined hy1) ⟨look_t rfl, look_t rfl, look_fn2 en56 (fun _ _ _ => C_value_And), trivial⟩) rfl, fun L' hL => HO.v (r_fa fd28_0 (look_t rfl)) rfl, fun L' hL => HO.v (r_load (i := 1) ((Lens.id T_cube_Cube).comp le_T_cube_Cube_Value) (r := x0.f_Value) ty26 (look_t rfl) (hL _ _ rfl rfl) rfl rfl) rfl, fun L' hL => HO.v (r_eqA eqv26 rfl eqg26 rfl (look_t rfl) (look_t rfl)) rfl, trivial⟩) fun ps1 => ?_
  refine Sq.v (r_asg (look_t rfl)) rfl rfl rfl ?_
  refine Sq.nil ?_
  refine To.next ?_
  refine Wp.ret ?_
  replace h := some_in h
  subst h
  exact To.end1 rfl (rv_t rfl)
set_option maxHeartbeats 2000000 in
theorem C_ref01_Ones {x0 : Int}  {r : T_api_Value} (h : L_ref01_Ones x0 = some r) : Meets Try.prog 65 [VP.of (x0)] (VP.of (r)) := by
  unfold L_ref01_Ones at h
  refine Meets.of Try.func65 rfl Try.ntmps65 rfl fun W A => ?_
  refine Wp.seq ?_
  refine Wp.reg ?_
  refine Sq.alloc zr24 rfl fun p1 => ?_
  refine Sq.nil ?_
  refine To.next ?_
  refine Wp.seq ?_
  refine Wp.reg ?_
  refine Sq.alloc zr111 rfl fun p2 => ?_
  refine Sq.nil ?_
  refine To.next ?_
  refine Wp.seq ?_
  refine Wp.seq ?_
  refine Wp.reg ?_
  refine Sq.v (r_asg (look_int 0)) rfl rfl rfl ?_
  refine Sq.nil ?_
  refine To.next ?_
  refine Wp.block ?_
  obtain ⟨e1, hl, h⟩ := bind_some h
  refine Wp.loopG (σ := Int × (Vector Bool 128)) (ε := (Int × Bool × (Vector Bool 128))) (γ := Unit) (δ := Unit) hl (fun s1 g1 => [(0, VP.of (x0)), (2, VP.eq (.pointer (some ⟨p1, 0, none⟩))), (3, VP.eq (.pointer (some ⟨p2, 0, none⟩))), (4, VP.of (s1.1))]) (fun s1 g1 => [⟨some p2, .var (s1.2 : Vector Bool 128)⟩, ⟨some p1, .var ((default : T_api_Value) : T_api_Value)⟩]) (fun q1 => Exit.exit 0) (fun q1 g1 => [(0, VP.of (x0)), (2, VP.eq (.pointer (some ⟨p1, 0, none⟩))), (3, VP.eq (.pointer (some ⟨p2, 0, none⟩))), (4, VP.of (q1.1)), (8, VP.of (q1.2.1))]) (fun q1 g1 => [⟨some p2, .var (q1.2.2 : Vector Bool 128)⟩, ⟨some p1, .var ((default : T_api_Value) : T_api_Value)⟩]) () rfl (.same rfl (.same rfl (.same rfl (.same rfl .nil)))) (fun s1 r h g1 => ?_) (fun g1 => ?_)
  · clear hl
    refine Wp.seq ?_
    refine Wp.seq ?_
    refine Wp.reg ?_
    refine Sq.v (r_move (look_t rfl)) rfl rfl rfl ?_
    refine Sq.v (r_move (look_t rfl)) rfl rfl rfl ?_
    obtain ⟨y1, hy1, h⟩ := bind_some h
    refine Sq.v (r_call en64 (C_ref01_clamp hy1) ⟨look_t rfl, trivial⟩) rfl rfl rfl ?_
    refine Sq.v (r_lss (look_t rfl) (look_t rfl)) rfl rfl rfl ?_
    refine Sq.nil ?_
    refine To.next ?_
    refine Wp.cond (look_t rfl) (fun hc => ?_) (fun hc => ?_)
    · replace h := cond_t hc h
      refine Wp.skip ?_
      refine To.next ?_
      refine Wp.seq ?_
      refine Wp.block ?_
      refine Wp.reg ?_
      refine Sq.v (r_move (look_t rfl)) rfl rfl rfl ?_
      obtain ⟨k1, hk1, h⟩ := bind_some h
      refine Sq.v (r_ia (k := k1) ar111 (look_t rfl) (look_t rfl) (idx_some hk1)) rfl rfl rfl ?_
      refine Sq.store (i := 0) ((Lens.id (Vector Bool 128)).comp (Lens.idx (α := Bool) 128 k1 (idx_some hk1).1)) (v := (true : Bool)) (b' := (vset s1.2 k1 true : Vector Bool 128)) ty4 (look_t rfl) (look_bool true) rfl rfl rfl ?_
      refine Sq.nil ?_
      refine To.bnorm ?_
      refine To.next ?_
      refine Wp.reg ?_
      refine Sq.v (r_move (look_t rfl)) rfl rfl rfl ?_
      refine Sq.v (r_add (look_t rfl) (look_int 1)) rfl rfl rfl ?_
      refine Sq.v (r_asg (look_t rfl)) rfl rfl rfl ?_
      refine Sq.nil ?_
      replace h := some_in h
      subst h
      exact To.roundG () 0 rfl (.same rfl (.same rfl (.same rfl (.same rfl .nil))))
    · replace h := cond_f hc h
      refine Wp.exit ?_
      refine To.exit ?_
      replace h := some_in h
      subst h
      exact To.leaveG () 0 rfl (by simp) rfl (.same rfl (.same rfl (.same rfl (.same rfl (.same rfl .nil)))))
  · clear hl
    refine To.bexit ?_
    refine To.next ?_
    refine Wp.seq ?_
    refine Wp.reg ?_
    refine Sq.v (r_load (i := 0) (Lens.id (Vector Bool 128)) (r := e1.2.2) ty111 (look_t rfl) rfl rfl rfl) rfl rfl rfl ?_
    obtain ⟨y2, hy2, h⟩ := bind_some h
    refine Sq.v (r_call en63 (C_ref01_Make hy2) ⟨look_t rfl, trivial⟩) rfl rfl rfl ?_
    refine Sq.store (i := 1) (Lens.id T_api_Value) (v := (y2 : T_api_Value)) (b' := (y2 : T_api_Value)) ty24 (look_t rfl) (look_t rfl) rfl rfl rfl ?_
    refine Sq.nil ?_
    refine To.next ?_
    refine Wp.ret ?_
    replace h := some_in h
    subst h
    exact To.end1 rfl (rv_c (i := 1) ty24 rfl rfl)
set_option maxHeartbeats 2000000 in
theorem Cp0_slices_DeleteFunc_cube_Cube {x0 : List T_cube_Cube} {x1 : T_cube_Cube → Option Bool} {key00 : Option Nat} {cap00 : Nat} {r : (List T_cube_Cube)} (h : Lp0_slices_DeleteFunc_cube_Cube x0 x1 = some r) : MeetsO Try.prog 91 [VP.eq (slv key00 x0.length cap00), VP.fn1 Try.prog x1] [⟨key00, .row 28 (x0 : List T_cube_Cube) cap00⟩] (δ := Unit) (fun d => VP.of (r)) (fun d => []) := by
  unfold Lp0_slices_DeleteFunc_cube_Cube at h
  refine MeetsO.of Try.func91 rfl Try.ntmps91 rfl fun W A => ?_
  refine Wp.seq ?_
  refine Wp.reg ?_
  refine Sq.v (r_asg (look_nil (α := T_cube_Cube))) rfl rfl rfl ?_
  refine Sq.nil ?_
  refine To.next ?_
  refine Wp.seq ?_
  refine Wp.reg ?_
  refine Sq.v (r_move (look_t rfl)) rfl rfl rfl ?_
  refine Sq.v (r_move (look_t rfl)) rfl rfl rfl ?_
  obtain ⟨y1, hy1, h⟩ := bind_some h
  refine Sq.v (HR.lend (α := T_cube_Cube) 0 8 rfl rfl flat_int (r_call en113 (C_slices_IndexFunc_cube_Cube hy1) ⟨look_t rfl, look_t rfl, trivial⟩)) rfl rfl rfl ?_
  refine Sq.v (r_asg (look_t rfl)) rfl rfl rfl ?_
  refine Sq.nil ?_
  refine To.next ?_
  refine Wp.seq ?_
  refine Wp.seq ?_
  refine Wp.reg ?_
  refine Sq.v (r_move (look_t rfl)) rfl rfl rfl ?_
  refine Sq.v (r_eql (look_t rfl) (look_int (-1))) rfl rfl rfl ?_
  refine Sq.nil ?_
  refine To.next ?_
  refine Wp.cond (look_t rfl) (fun hc => ?_) (fun hc => ?_)
  · replace h := cond_t hc h
    refine Wp.seq ?_
    refine Wp.reg ?_
    refine Sq.v (r_move (look_t rfl)) rfl rfl rfl ?_
    refine Sq.v (r_asg (look_t rfl)) rfl rfl rfl ?_
    refine Sq.nil ?_
    refine To.next ?_
    refine Wp.ret ?_
    refine To.ret ?_
    refine To.freeze (α := T_cube_Cube) 0 4 rfl rfl ?_
    replace h := some_in h
    subst h
    exact To.endO1 () (List.nil_sublist _) rfl rfl (rvo_t rfl)
  · replace h := cond_f hc h
    refine Wp.skip ?_
    refine To.next ?_
    refine Wp.seq ?_
    refine Wp.seq ?_
    refine Wp.reg ?_
    refine Sq.v (r_move (look_t rfl)) rfl rfl rfl ?_
    refine Sq.v (r_add (look_t rfl) (look_int 1)) rfl rfl rfl ?_
    refine Sq.v (r_asg (look_t rfl)) rfl rfl rfl ?_
    refine Sq.nil ?_
    refine To.next ?_
    refine Wp.block ?_
    obtain ⟨e1, hl, h⟩ := bind_some h
    refine Wp.loopG (σ := Int × Int × (List T_cube_Cube)) (ε := (Int × Int × Bool × (List T_cube_Cube))) (γ := (Option Nat × Nat)) (δ := (Option Nat × Nat)) hl (fun s1 g1 => [(0, VP.eq (slv g1.1 s1.2.2.length g1.2)), (1, VP.fn1 Try.prog x1), (4, VP.of ([] : List T_cube_Cube)), (5, VP.of (s1.1)), (6, VP.of (s1.2.1)), (12, VP.of (y1 == (-1)))]) (fun s1 g1 => [⟨g1.1, .row 28 (s1.2.2 : List T_cube_Cube) g1.2⟩]) (fun q1 => Exit.exit 0) (fun q1 g1 => [(0, VP.eq (slv g1.1 q1.2.2.2.length g1.2)), (1, VP.fn1 Try.prog x1), (4, VP.of ([] : List T_cube_Cube)), (5, VP.of (q1.1)), (6, VP.of (q1.2.1)), (12, VP.of (y1 == (-1))), (19, VP.of (q1.2.2.1))]) (fun q1 g1 => [⟨g1.1, .row 28 (q1.2.2.2 : List T_cube_Cube) g1.2⟩]) (key00, cap00) rfl (.same rfl (.same rfl (.same rfl (.same rfl (.same rfl (.same rfl .nil)))))) (fun s1 r h g1 => ?_) (fun g1 => ?_)
    · clear hl
      refine Wp.seq ?_
      refine Wp.seq ?_
      refine Wp.reg ?_
      refine Sq.v (r_move (look_t rfl)) rfl rfl rfl ?_
      refine Sq.v (r_move (look_t rfl)) rfl rfl rfl ?_
      refine Sq.v (r_lenO (i := 0) Try.underlying31 (look_t rfl) rfl rfl) rfl rfl rfl ?_
      refine Sq.v (r_lss (look_t rfl) (look_t rfl)) rfl rfl rfl ?_
      refine Sq.nil ?_
      refine To.next ?_
      refine Wp.cond (look_t rfl) (fun hc => ?_) (fun hc => ?_)
      · replace h := cond_t hc h
        refine Wp.skip ?_
        refine To.next ?_
        refine Wp.seq ?_
        refine Wp.block ?_
        refine Wp.seq ?_
        refine Wp.reg ?_
        refine Sq.v (r_move (look_t rfl)) rfl rfl rfl ?_
        refine Sq.v (r_move (look_t rfl)) rfl rfl rfl ?_
        obtain ⟨k1, hk1, h⟩ := bind_some h
        refine Sq.v (r_iaO (i := 0) (k := k1) (xs := (s1.2.2 : List T_cube_Cube)) Try.underlying31 ty28 (look_t rfl) (look_t rfl) rfl (idx_some hk1)) rfl rfl rfl ?_
        refine Sq.v (r_loadR (i := 0) (k := k1) (Lens.id T_cube_Cube) (r := (lget s1.2.2 k1)) ty28 (look_t rfl) rfl (idx_some hk1).1 rfl rfl) rfl rfl rfl ?_
        refine Sq.alloc zr28 rfl fun p1 => ?_
        refine Sq.store (i := 0) (Lens.id T_cube_Cube) (v := ((lget s1.2.2 k1) : T_cube_Cube)) (b' := ((lget s1.2.2 k1) : T_cube_Cube)) ty28 (look_t rfl) (look_t rfl) rfl rfl rfl ?_
        refine Sq.nil ?_
        refine To.next ?_
        refine Wp.seq ?_
        refine Wp.reg ?_
        refine Sq.v (r_move (look_t rfl)) rfl rfl rfl ?_
        refine Sq.v (r_load (i := 0) (Lens.id T_cube_Cube) (r := (lget s1.2.2 k1)) ty28 (look_t rfl) rfl rfl rfl) rfl rfl rfl ?_
        obtain ⟨y2, hy2, h⟩ := bind_some h
        refine Sq.v (r_callF1 (look_t rfl) (look_t rfl) hy2) rfl rfl rfl ?_
        refine Sq.v (r_not (look_t rfl)) rfl rfl rfl ?_
        refine Sq.nil ?_
        refine To.next ?_
        obtain ⟨m1, hm1, h⟩ := bind_some h
        refine Wp.condM (γ := (Option Nat × Nat)) (fun g2 => [(0, VP.eq (slv g2.1 m1.2.length g2.2)), (1, VP.fn1 Try.prog x1), (4, VP.of ([] : List T_cube_Cube)), (5, VP.of (m1.1)), (6, VP.of (s1.2.1)), (7, VP.eq (.pointer (some ⟨p1, 0, none⟩))), (12, VP.of (y1 == (-1))), (19, VP.of (decide (s1.2.1 < (s1.2.2.length : Int)))), (29, VP.of (!y2))]) (fun g2 => [⟨some p1, .var ((lget s1.2.2 k1) : T_cube_Cube)⟩, ⟨g2.1, .row 28 (m1.2 : List T_cube_Cube) g2.2⟩]) (look_t rfl) (fun g2 => ?_) (fun hm hc => ?_) (fun hm hc => ?_)
        · clear hm1
          refine To.bnorm ?_
          refine To.next ?_
          refine Wp.reg ?_
          refine Sq.v (r_move (look_t rfl)) rfl rfl rfl ?_
          refine Sq.v (r_add (look_t rfl) (look_int 1)) rfl rfl rfl ?_
          refine Sq.v (r_asg (look_t rfl)) rfl rfl rfl ?_
          refine Sq.nil ?_
          replace h := some_in h
          subst h
          exact To.roundG (g2.1, g2.2) 1 rfl (.same rfl (.same rfl (.same rfl (.same rfl (.same rfl (.same rfl .nil))))))
        · have h := cond_t hc hm1
          refine Wp.seq ?_
          refine Wp.reg ?_
          refine Sq.v (r_move (look_t rfl)) rfl rfl rfl ?_
          refine Sq.v (r_move (look_t rfl)) rfl rfl rfl ?_
          refine Sq.v (r_load (i := 0) (Lens.id T_cube_Cube) (r := (lget s1.2.2 k1)) ty28 (look_t rfl) rfl rfl rfl) rfl rfl rfl ?_
          obtain ⟨k2, hk2, h⟩ := bind_some h
          refine Sq.v (r_iaO (i := 1) (k := k2) (xs := (s1.2.2 : List T_cube_Cube)) Try.underlying31 ty28 (look_t rfl) (look_t rfl) rfl (idx_some hk2)) rfl rfl rfl ?_
          refine Sq.storeR (i := 1) (k := k2) (Lens.id T_cube_Cube) (v := ((lget s1.2.2 k1) : T_cube_Cube)) (r := (lset s1.2.2 k2 (lget s1.2.2 k1) : List T_cube_Cube)) ty28 (look_t rfl) (look_t rfl) rfl (idx_some hk2).1 rfl rfl ?_
          refine Sq.relen (m := (lset s1.2.2 k2 (lget s1.2.2 k1)).length) 0 rfl (lset_len rfl) ?_
          refine Sq.relen (m := (lset s1.2.2 k2 (lget s1.2.2 k1)).length) 17 rfl (lset_len rfl) ?_
          refine Sq.relen (m := (lset s1.2.2 k2 (lget s1.2.2 k1)).length) 22 rfl (lset_len rfl) ?_
          refine Sq.relen (m := (lset s1.2.2 k2 (lget s1.2.2 k1)).length) 30 rfl (lset_len rfl) ?_
          refine Sq.nil ?_
          refine To.next ?_
          refine Wp.reg ?_
          refine Sq.v (r_move (look_t rfl)) rfl rfl rfl ?_
          refine Sq.v (r_add (look_t rfl) (look_int 1)) rfl rfl rfl ?_
          refine Sq.v (r_asg (look_t rfl)) rfl rfl rfl ?_
          refine Sq.nil ?_
          replace h := some_in h
          subst h
          exact To.meet 0 rfl (.same rfl (.same rfl (.same rfl (.same rfl (.same rfl (.same rfl (.same rfl (.same rfl (.same rfl .nil))))))))) (hm (g1.1, g1.2))
        · have h := cond_f hc hm1
          refine Wp.skip ?_
          replace h := some_in h
          subst h
          exact To.meet 0 rfl (.same rfl (.same rfl (.same rfl (.same rfl (.same rfl (.same rfl (.same rfl (.same rfl (.same rfl .nil))))))))) (hm (g1.1, g1.2))
      · replace h := cond_f hc h
        refine Wp.exit ?_
        refine To.exit ?_
        replace h := some_in h
        subst h
        exact To.leaveG (g1.1, g1.2) 0 rfl (by simp) rfl (.same rfl (.same rfl (.same rfl (.same rfl (.same rfl (.same rfl (.same rfl .nil)))))))
    · clear hl
      refine To.bexit ?_
      refine To.next ?_
      refine Wp.seq ?_
      refine Wp.reg ?_
      refine Sq.v (r_move (look_t rfl)) rfl rfl rfl ?_
      refine Sq.v (r_move (look_t rfl)) rfl rfl rfl ?_
      obtain ⟨y3, hy3, h⟩ := bind_some h
      refine Sq.v (r_sliceO (i := 0) (xs := (e1.2.2.2 : List T_cube_Cube)) (m := y3.1) (n := y3.2) Try.underlying31 ty28 (look_t rfl) rfl (.some (look_t rfl)) .none (cutM_some hy3).1 (cutM_some hy3).2.1 (cutM_some hy3).2.2) rfl rfl rfl ?_
      obtain ⟨z1, hz1, h⟩ := bind_some h
      refine Sq.clear (i := 0) (r := z1) Try.underlying31 ty28 zr28 rfl (look_t rfl) rfl (by have := (cutM_some hy3).2.2; omega) (some_in hz1) ?_
      refine Sq.relen (m := z1.length) 0 rfl (lclear_len (by have := (cutM_some hy3).2.2; omega) (some_in hz1)) ?_
      refine Sq.relen (m := z1.length) 36 rfl (lclear_len (by have := (cutM_some hy3).2.2; omega) (some_in hz1)) ?_
      refine Sq.nil ?_
      refine To.next ?_
      refine Wp.seq ?_
      refine Wp.reg ?_
      refine Sq.v (r_move (look_t rfl)) rfl rfl rfl ?_
      refine Sq.v (r_move (look_t rfl)) rfl rfl rfl ?_
      obtain ⟨k3, hk3, h⟩ := bind_some h
      refine Sq.v (r_sliceO (i := 0) (xs := (z1 : List T_cube_Cube)) (m := 0) (n := k3) Try.underlying31 ty28 (look_t rfl) rfl .none (.some (look_t rfl)) rfl (idx_some hk3).2 ⟨Nat.zero_le _, Nat.le_of_lt_succ (idx_some hk3).1⟩) rfl rfl rfl ?_
      obtain ⟨z2, hz2, h⟩ := bind_some h
      refine Sq.trunc (i := 0) (n := k3) (xs := (z1 : List T_cube_Cube)) (r := z2) 41 rfl rfl (Nat.le_of_lt_succ (idx_some hk3).1) (some_in hz2) ?_
      refine Sq.v (r_asg (look_t rfl)) rfl rfl rfl ?_
      refine Sq.nil ?_
      refine To.next ?_
      refine Wp.ret ?_
      refine To.freeze (α := T_cube_Cube) 0 4 rfl rfl ?_
      replace h := some_in h
      subst h
      exact To.endO1 () (List.nil_sublist _) rfl rfl (rvo_t rfl)
set_option maxHeartbeats 2000000 in
theorem C_slices_ContainsFunc_cube_Cube {x0 : List T_cube_Cube} {x1 : T_cube_Cube → Option Bool}  {r : Bool} (h : L_slices_ContainsFunc_cube_Cube x0 x1 = some r) : Meets Try.prog 94 [VP.of (x0), VP.fn1 Try.prog x1] (VP.of (r)) := by
  unfold L_slices_ContainsFunc_cube_Cube at h
  refine Meets.of Try.func94 rfl Try.ntmps94 rfl fun W A => ?_
  refine Wp.seq ?_
  refine Wp.reg ?_
  refine Sq.v (r_asg (look_bool false)) rfl rfl rfl ?_
  refine Sq.nil ?_
  refine To.next ?_
  refine Wp.seq ?_
  refine Wp.reg ?_
  refine Sq.v (r_move (look_t rfl)) rfl rfl rfl ?_
  refine Sq.v (r_move (look_t rfl)) rfl rfl rfl ?_
  obtain ⟨y1, hy1, h⟩ := bind_some h
  refine Sq.v (r_call en113 (C_slices_IndexFunc_cube_Cube hy1) ⟨look_t rfl, look_t rfl, trivial⟩) rfl rfl rfl ?_
  refine Sq.v (r_geq (look_t rfl) (look_int 0)) rfl rfl rfl ?_
  refine Sq.v (r_asg (look_t rfl)) rfl rfl rfl ?_
  refine Sq.nil ?_
  refine To.next ?_
  refine Wp.ret ?_
  replace h := some_in h
  subst h
  exact To.end1 rfl (rv_t rfl)
set_option maxHeartbeats 2000000 in
theorem C_cover_escape {x0 : T_cube_Cube} {x1 : Vector T_api_Value 4} {x2 : Vector T_api_Value 4}  {r : T_cube_Cube} (h : L_cover_escape x0 x1 x2 = some r) : Meets Try.prog 97 [VP.of (x0), VP.of (x1), VP.of (x2)] (VP.of (r)) := by
  unfold L_cover_escape at h
  refine Meets.of Try.func97 rfl Try.ntmps97 rfl fun W A => ?_
  refine Wp.seq ?_
  refine Wp.reg ?_
  refine Sq.box (z := (x0 : T_cube_Cube)) (look_t rfl) rfl fun p1 => ?_
  refine Sq.box (z := (x1 : Vector T_api_Value 4)) (look_t rfl) rfl fun p2 => ?_
  refine Sq.box (z := (x2 : Vector T_api_Value 4)) (look_t rfl) rfl fun p3 => ?_
  refine Sq.alloc zr28 rfl fun p4 => ?_
  refine Sq.nil ?_
  refine To.next ?_
  refine Wp.seq ?_
  refine Wp.seq ?_
  refine Wp.reg ?_
  refine Sq.v (r_move (look_int 0)) rfl rfl rfl ?_
  refine Sq.nil ?_
  refine To.next ?_
  refine Wp.block ?_
  obtain ⟨e1, hl, h⟩ := bind_some h
  refine Wp.loopG (σ := Int × T_cube_Cube) (ε := (Int × Bool × T_cube_Cube)) (γ := Unit) (δ := Unit) hl (fun s1 g1 => [(0, VP.of (x0)), (1, VP.of (x1)), (2, VP.of (x2)), (3, VP.eq (.pointer (some ⟨p1, 0, none⟩))), (4, VP.eq (.pointer (some ⟨p2, 0, none⟩))), (5, VP.eq (.pointer (some ⟨p3, 0, none⟩))), (6, VP.eq (.pointer (some ⟨p4, 0, none⟩))), (9, VP.of (s1.1))]) (fun s1 g1 => [⟨some p4, .var ((default : T_cube_Cube) : T_cube_Cube)⟩, ⟨some p3, .var (x2 : Vector T_api_Value 4)⟩, ⟨some p2, .var (x1 : Vector T_api_Value 4)⟩, ⟨some p1, .var (s1.2 : T_cube_Cube)⟩]) (fun q1 => Exit.exit 0) (fun q1 g1 => [(0, VP.of (x0)), (1, VP.of (x1)), (2, VP.of (x2)), (3, VP.eq (.pointer (some ⟨p1, 0, none⟩))), (4, VP.eq (.pointer (some ⟨p2, 0, none⟩))), (5, VP.eq (.pointer (some ⟨p3, 0, none⟩))), (6, VP.eq (.pointer (some ⟨p4, 0, none⟩))), (9, VP.of (q1.1)), (10, VP.of (q1.2.1))]) (fun q1 g1 => [⟨some p4, .var ((default : T_cube_Cube) : T_cube_Cube)⟩, ⟨some p3, .var (x2 : Vector T_api_Value 4)⟩, ⟨some p2, .var (x1 : Vector T_api_Value 4)⟩, ⟨some p1, .var (q1.2.2 : T_cube_Cube)⟩]) () rfl (.same rfl (.same rfl (.same rfl (.same rfl (.same rfl (.same rfl (.same rfl (.same rfl .nil)))))))) (fun s1 r h g1 => ?_) (fun g1 => ?_)
  · clear hl
    refine Wp.seq ?_
    refine Wp.reg ?_
    refine Sq.v (r_lss (look_t rfl) (look_int 4)) rfl rfl rfl ?_
    refine Sq.nil ?_
    refine To.next ?_
    refine Wp.seq ?_
    refine Wp.cond (look_t rfl) (fun hc => ?_) (fun hc => ?_)
    · replace h := cond_t hc h
      refine Wp.skip ?_
      refine To.next ?_
      refine Wp.seq ?_
      refine Wp.block ?_
      refine Wp.seq ?_
      refine Wp.reg ?_
      refine Sq.v (r_move (look_t rfl)) rfl rfl rfl ?_
      refine Sq.v (r_asg (look_t rfl)) rfl rfl rfl ?_
      refine Sq.nil ?_
      refine To.next ?_
      refine Wp.seq ?_
      obtain ⟨k1, hk1, h⟩ := bind_some h
      obtain ⟨k2, hk2, h⟩ := bind_some h
      obtain ⟨y1, hy1, h⟩ := bind_some h
      refine Wp.draw mixed 8 [some 12, some 13, some 14, some 15, some 16, some 17, some 18, some 8] [[], [0], [1], [], [3], [4], [2, 5], []] [.val (VP.of (s1.1)), .val (VP.eq (.pointer (some ⟨p2, 0 + k1 * 2, none⟩))), .val (VP.of (vget x1 k1)), .val (VP.of (s1.1)), .val (VP.eq (.pointer (some ⟨p3, 0 + k2 * 2, none⟩))), .val (VP.of (vget x2 k2)), .val (VP.of (y1)), .new (.var (default : T_api_Value))] [false, false, false, false, false, false, false, false] (by kernel_rfl) rfl rfl rfl (fun ps1 => ⟨fun L' hL => HO.v (r_move (look_t rfl)) rfl, fun L' hL => HO.v (r_ia (k := k1) ar26 (look_t rfl) (look_t rfl) (idx_some hk1)) rfl, fun L' hL => HO.v (r_load (i := 2) ((Lens.id (Vector T_api_Value 4)).comp (Lens.idx (α := T_api_Value) 4 k1 (idx_some hk1).1)) (r := vget x1 k1) ty24 (look_t rfl) (hL _ _ rfl rfl) rfl rfl) rfl, fun L' hL => HO.v (r_move (look_t rfl)) rfl, fun L' hL => HO.v (r_ia (k := k2) ar26 (look_t rfl) (look_t rfl) (idx_some hk2)) rfl, fun L' hL => HO.v (r_load (i := 1) ((Lens.id (Vector T_api_Value 4)).comp (Lens.idx (α := T_api_Value) 4 k2 (idx_some hk2).1)) (r := vget x2 k2) ty24 (look_t rfl) (hL _ _ rfl rfl) rfl rfl) rfl, fun L' hL => HO.v (r_call en56 (C_value_And hy1) ⟨look_t rfl, look_t rfl, trivial⟩) rfl, ao_alloc zr24, trivial⟩) fun ps1 => ?_
      refine Sq.store (i := 0) (Lens.id T_api_Value) (v := (y1 : T_api_Value)) (b' := (y1 : T_api_Value)) ty24 (look_t rfl) (look_t rfl) rfl rfl rfl ?_
      refine Sq.nil ?_
      refine To.next ?_
      refine Wp.seq ?_
      obtain ⟨k3, hk3, h⟩ := bind_some h
      obtain ⟨k4, hk4, h⟩ := bind_some h
      obtain ⟨k5, hk5, h⟩ := bind_some h
      obtain ⟨y2, hy2, h⟩ := bind_some h
      obtain ⟨y3, hy3, h⟩ := bind_some h
      obtain ⟨y4, hy4, h⟩ := bind_some h
      obtain ⟨k6, hk6, h⟩ := bind_some h
      refine Wp.draw mixed 17 ((some 19) :: (some 20) :: (some 21) :: (some 22) :: (some 23) :: (some 24) :: (some 25) :: (some 26) :: (some 27) :: (some 28) :: (some 29) :: (some 30) :: (some 31) :: (some 32) :: (some 33) :: (some 34) :: (some 35) :: []) ([] :: [] :: [] :: [1, 2] :: [3] :: [] :: [5] :: [6] :: [] :: [8] :: [9] :: [7, 10] :: [] :: [11, 12] :: [4, 13] :: [] :: [0, 15] :: []) (.val (VP.of (s1.1)) :: .val (VP.of (s1.1)) :: .val (VP.eq (.pointer (some ⟨p1, 0 + 8, none⟩))) :: .val (VP.eq (.pointer (some ⟨p1, 0 + 8 + k3 * 2, none⟩))) :: .val (VP.of (vget s1.2.f_Mask k3)) :: .val (VP.of (s1.1)) :: .val (VP.eq (.pointer (some ⟨p2, 0 + k4 * 2, none⟩))) :: .val (VP.of (vget x1 k4)) :: .val (VP.of (s1.1)) :: .val (VP.eq (.pointer (some ⟨p3, 0 + k5 * 2, none⟩))) :: .val (VP.of (vget x2 k5)) :: .val (VP.of (y2)) :: .val (VP.of (y1)) :: .val (VP.of (y3)) :: .val (VP.of (y4)) :: .val (VP.eq (.pointer (some ⟨p1, 0 + 8, none⟩))) :: .val (VP.eq (.pointer (some ⟨p1, 0 + 8 + k6 * 2, none⟩))) :: []) (false :: false :: false :: false :: false :: false :: false :: false :: false :: false :: false :: false :: false :: false :: false :: false :: false :: []) (by kernel_rfl) rfl rfl rfl (fun ps2 => ⟨fun L' hL => HO.v (r_move (look_t rfl)) rfl, fun L' hL => HO.v (r_move (look_t rfl)) rfl, fun L' hL => HO.v (r_fa fd28_1 (look_t rfl)) rfl, fun L' hL => HO.v (r_ia (k := k3) ar26 (look_t rfl) (look_t rfl) (idx_some hk3)) rfl, fun L' hL => HO.v (r_load (i := 4) (((Lens.id T_cube_Cube).comp le_T_cube_Cube_Mask).comp (Lens.idx (α := T_api_Value) 4 k3 (idx_some hk3).1)) (r := vget s1.2.f_Mask k3) ty24 (look_t rfl) (hL _ _ rfl rfl) rfl rfl) rfl, fun L' hL => HO.v (r_move (look_t rfl)) rfl, fun L' hL => HO.v (r_ia (k := k4) ar26 (look_t rfl) (look_t rfl) (idx_some hk4)) rfl, fun L' hL => HO.v (r_load (i := 3) ((Lens.id (Vector T_api_Value 4)).comp (Lens.idx (α := T_api_Value) 4 k4 (idx_some hk4).1)) (r := vget x1 k4) ty24 (look_t rfl) (hL _ _ rfl rfl) rfl rfl) rfl, fun L' hL => HO.v (r_move (look_t rfl)) rfl, fun L' hL => HO.v (r_ia (k := k5) ar26 (look_t rfl) (look_t rfl) (idx_some hk5)) rfl, fun L' hL => HO.v (r_load (i := 2) ((Lens.id (Vector T_api_Value 4)).comp (Lens.idx (α := T_api_Value) 4 k5 (idx_some hk5).1)) (r := vget x2 k5) ty24 (look_t rfl) (hL _ _ rfl rfl) rfl rfl) rfl, fun L' hL => HO.v (r_call en58 (C_value_Or hy2) ⟨look_t rfl, look_t rfl, trivial⟩) rfl, fun L' hL => HO.v (r_load (i := 0) (Lens.id T_api_Value) (r := y1) ty24 (look_t rfl) (hL _ _ rfl rfl) rfl rfl) rfl, fun L' hL => HO.v (r_call en57 (C_value_Xor hy3) ⟨look_t rfl, look_t rfl, trivial⟩) rfl, fun L' hL => HO.v (r_call en58 (C_value_Or hy4) ⟨look_t rfl, look_t rfl, trivial⟩) rfl, fun L' hL => HO.v (r_fa fd28_1 (look_t rfl)) rfl, fun L' hL => HO.v (r_ia (k := k6) ar26 (look_t rfl) (look_t rfl) (idx_some hk6)) rfl, trivial⟩) fun ps2 => ?_
      refine Sq.store (i := 4) (((Lens.id T_cube_Cube).comp le_T_cube_Cube_Mask).comp (Lens.idx (α := T_api_Value) 4 k6 (idx_some hk6).1)) (v := (y4 : T_api_Value)) (b' := ({ s1.2 with f_Mask := vset s1.2.f_Mask k6 y4 } : T_cube_Cube)) ty24 (look_t rfl) (look_t rfl) rfl rfl rfl ?_
      refine Sq.nil ?_
      refine To.next ?_
      obtain ⟨k7, hk7, h⟩ := bind_some h
      obtain ⟨k8, hk8, h⟩ := bind_some h
      obtain ⟨y5, hy5, h⟩ := bind_some h
      obtain ⟨y6, hy6, h⟩ := bind_some h
      obtain ⟨k9, hk9, h⟩ := bind_some h
      refine Wp.draw mixed 13 [some 36, some 37, some 38, some 39, some 40, some 41, some 42, some 43, some 44, some 45, some 46, some 47, some 48] [[], [], [], [1, 2], [3], [], [5], [6], [], [7, 8], [4, 9], [], [0, 11]] [.val (VP.of (s1.1)), .val (VP.of (s1.1)), .val (VP.eq (.pointer (some ⟨p1, 0 + 0, none⟩))), .val (VP.eq (.pointer (some ⟨p1, 0 + 0 + k7 * 2, none⟩))), .val (VP.of (vget (({ s1.2 with f_Mask := vset s1.2.f_Mask k6 y4 }).f_Value) k7)), .val (VP.of (s1.1)), .val (VP.eq (.pointer (some ⟨p2, 0 + k8 * 2, none⟩))), .val (VP.of (vget x1 k8)), .val (VP.of (y1)), .val (VP.of (y5)), .val (VP.of (y6)), .val (VP.eq (.pointer (some ⟨p1, 0 + 0, none⟩))), .val (VP.eq (.pointer (some ⟨p1, 0 + 0 + k9 * 2, none⟩)))] [false, false, false, false, false, false, false, false, false, false, false, false, false] (by kernel_rfl) rfl rfl rfl (fun ps3 => ⟨fun L' hL => HO.v (r_move (look_t rfl)) rfl, fun L' hL => HO.v (r_move (look_t rfl)) rfl, fun L' hL => HO.v (r_fa fd28_0 (look_t rfl)) rfl, fun L' hL => HO.v (r_ia (k := k7) ar26 (look_t rfl) (look_t rfl) (idx_some hk7)) rfl, fun L' hL => HO.v (r_load (i := 4) (((Lens.id T_cube_Cube).comp le_T_cube_Cube_Value).comp (Lens.idx (α := T_api_Value) 4 k7 (idx_some hk7).1)) (r := vget (({ s1.2 with f_Mask := vset s1.2.f_Mask k6 y4 }).f_Value) k7) ty24 (look_t rfl) (hL _ _ rfl rfl) rfl rfl) rfl, fun L' hL => HO.v (r_move (look_t rfl)) rfl, fun L' hL => HO.v (r_ia (k := k8) ar26 (look_t rfl) (look_t rfl) (idx_some hk8)) rfl, fun L' hL => HO.v (r_load (i := 3) ((Lens.id (Vector T_api_Value 4)).comp (Lens.idx (α := T_api_Value) 4 k8 (idx_some hk8).1)) (r := vget x1 k8) ty24 (look_t rfl) (hL _ _ rfl rfl) rfl rfl) rfl, fun L' hL => HO.v (r_load (i := 0) (Lens.id T_api_Value) (r := y1) ty24 (look_t rfl) (hL _ _ rfl rfl) rfl rfl) rfl, fun L' hL => HO.v (r_call en57 (C_value_Xor hy5) ⟨look_t rfl, look_t rfl, trivial⟩) rfl, fun L' hL => HO.v (r_call en58 (C_value_Or hy6) ⟨look_t rfl, look_t rfl, trivial⟩) rfl, fun L' hL => HO.v (r_fa fd28_0 (look_t rfl)) rfl, fun L' hL => HO.v (r_ia (k := k9) ar26 (look_t rfl) (look_t rfl) (idx_some hk9)) rfl, trivial⟩) fun ps3 => ?_
      obtain ⟨z1, hz1, h⟩ := bind_some h
      refine Sq.store (i := 4) (((Lens.id T_cube_Cube).comp le_T_cube_Cube_Value).comp (Lens.idx (α := T_api_Value) 4 k9 (idx_some hk9).1)) (v := (y6 : T_api_Value)) (b' := (z1 : T_cube_Cube)) ty24 (look_t rfl) (look_t rfl) rfl rfl (some_in hz1) ?_
      refine Sq.nil ?_
      refine To.bnorm ?_
      refine To.next ?_
      refine Wp.reg ?_
      refine Sq.v (r_add (look_t rfl) (look_int 1)) rfl rfl rfl ?_
      refine Sq.v (r_move (look_t rfl)) rfl rfl rfl ?_
      refine Sq.nil ?_
      replace h := some_in h
      subst h
      exact To.roundG () 1 rfl (.same rfl (.same rfl (.same rfl (.same rfl (.same rfl (.same rfl (.same rfl (.same rfl .nil))))))))
    · replace h := cond_f hc h
      refine Wp.exit ?_
      refine To.exit ?_
      replace h := some_in h
      subst h
      exact To.leaveG () 0 rfl (by simp) rfl (.same rfl (.same rfl (.same rfl (.same rfl (.same rfl (.same rfl (.same rfl (.same rfl (.same rfl .nil)))))))))
  · clear hl
    refine To.bexit ?_
    refine To.next ?_
    refine Wp.seq ?_
    refine Wp.reg ?_
    refine Sq.v (r_load (i := 3) (Lens.id T_cube_Cube) (r := e1.2.2) ty28 (look_t rfl) rfl rfl rfl) rfl rfl rfl ?_
    refine Sq.store (i := 0) (Lens.id T_cube_Cube) (v := (e1.2.2 : T_cube_Cube)) (b' := (e1.2.2 : T_cube_Cube)) ty28 (look_t rfl) (look_t rfl) rfl rfl rfl ?_
    refine Sq.nil ?_
    refine To.next ?_
    refine Wp.ret ?_
    replace h := some_in h
    subst h
    exact To.end1 rfl (rv_c (i := 0) ty28 rfl rfl)
set_option maxHeartbeats 2000000 in
theorem C_ref26_near {x0 : Vector (BitVec 8) 512} {x1 : List (Vector (BitVec 8) 512)}  {r : (List (Vector (BitVec 8) 512))} (h : L_ref26_near x0 x1 = some r) : Meets Try.prog 69 [VP.of (x0), VP.of (x1)] (VP.of (r)) := by
  unfold L_ref26_near at h
  refine Meets.of Try.func69 rfl Try.ntmps69 rfl fun W A => ?_
  refine Wp.seq ?_
  refine Wp.reg ?_
  refine Sq.box (z := (x0 : Vector (BitVec 8) 512)) (look_t rfl) rfl fun p1 => ?_
  refine Sq.v (r_asg (look_nil (α := Vector (BitVec 8) 512))) rfl rfl rfl ?_
  refine Sq.nil ?_
  refine To.next ?_
  refine Wp.seq ?_
  refine Wp.reg ?_
  refine Sq.own (α := Vector (BitVec 8) 512) 36 ?_
  refine Sq.v (r_asg look_own) rfl rfl rfl ?_
  refine Sq.nil ?_
  refine To.next ?_
  refine Wp.seq ?_
  refine Wp.seq ?_
  refine Wp.reg ?_
  refine Sq.v (r_move (look_t rfl)) rfl rfl rfl ?_
  refine Sq.v (r_len Try.underlying33 (look_t rfl)) rfl rfl rfl ?_
  refine Sq.v (r_move (look_int 0)) rfl rfl rfl ?_
  refine Sq.nil ?_
  refine To.next ?_
  refine Wp.block ?_
  obtain ⟨e1, hl, h⟩ := bind_some h
  refine Wp.loopG (σ := Int × (List (Vector (BitVec 8) 512))) (ε := (Int × Bool × (List (Vector (BitVec 8) 512)))) (γ := (Option Nat × Nat)) (δ := (Option Nat × Nat)) hl (fun s1 g1 => [(0, VP.of (x0)), (1, VP.of (x1)), (2, VP.eq (.pointer (some ⟨p1, 0, none⟩))), (4, VP.of ([] : List (Vector (BitVec 8) 512))), (5, VP.eq (slv g1.1 s1.2.length g1.2)), (10, VP.of (x1)), (11, VP.of (x1.length : Int)), (12, VP.of (s1.1))]) (fun s1 g1 => [⟨g1.1, .row 36 (s1.2 : List (Vector (BitVec 8) 512)) g1.2⟩, ⟨some p1, .var (x0 : Vector (BitVec 8) 512)⟩]) (fun q1 => Exit.exit 0) (fun q1 g1 => [(0, VP.of (x0)), (1, VP.of (x1)), (2, VP.eq (.pointer (some ⟨p1, 0, none⟩))), (4, VP.of ([] : List (Vector (BitVec 8) 512))), (5, VP.eq (slv g1.1 q1.2.2.length g1.2)), (10, VP.of (x1)), (11, VP.of (x1.length : Int)), (12, VP.of (q1.1)), (13, VP.of (q1.2.1))]) (fun q1 g1 => [⟨g1.1, .row 36 (q1.2.2 : List (Vector (BitVec 8) 512)) g1.2⟩, ⟨some p1, .var (x0 : Vector (BitVec 8) 512)⟩]) (none, 0) rfl (.same rfl (.same rfl (.same rfl (.same rfl (.same rfl (.same rfl (.same rfl (.same rfl .nil)))))))) (fun s1 r h g1 => ?_) (fun g1 => ?_)
  · clear hl
    refine Wp.seq ?_
    refine Wp.reg ?_
    refine Sq.v (r_lss (look_t rfl) (look_t rfl)) rfl rfl rfl ?_
    refine Sq.nil ?_
    refine To.next ?_
    refine Wp.seq ?_
    refine Wp.cond (look_t rfl) (fun hc => ?_) (fun hc => ?_)
    · replace h := cond_t hc h
      refine Wp.skip ?_
      refine To.next ?_
      refine Wp.seq ?_
      refine Wp.block ?_
      refine Wp.seq ?_
      refine Wp.reg ?_
      obtain ⟨k1, hk1, h⟩ := bind_some h
      refine Sq.v (r_ias (k := k1) Try.underlying33 ty36 (look_t rfl) (look_t rfl) (idx_some hk1)) rfl rfl rfl ?_
      refine Sq.v (r_loadp ty36 (look_t rfl)) rfl rfl rfl ?_
      refine Sq.alloc zr36 rfl fun p2 => ?_
      refine Sq.store (i := 0) (Lens.id (Vector (BitVec 8) 512)) (v := (lget x1 k1 : Vector (BitVec 8) 512)) (b' := (lget x1 k1 : Vector (BitVec 8) 512)) ty36 (look_t rfl) (look_t rfl) rfl rfl rfl ?_
      refine Sq.nil ?_
      refine To.next ?_
      refine Wp.seq ?_
      refine Wp.reg ?_
      refine Sq.v (r_load (i := 2) (Lens.id (Vector (BitVec 8) 512)) (r := x0) ty36 (look_t rfl) rfl rfl rfl) rfl rfl rfl ?_
      refine Sq.v (r_load (i := 0) (Lens.id (Vector (BitVec 8) 512)) (r := (lget x1 k1)) ty36 (look_t rfl) rfl rfl rfl) rfl rfl rfl ?_
      obtain ⟨y1, hy1, h⟩ := bind_some h
      refine Sq.v (r_call en26 (C_ref25_Meet hy1) ⟨look_t rfl, look_t rfl, trivial⟩) rfl rfl rfl ?_
      refine Sq.v (r_move (look_t rfl)) rfl rfl rfl ?_
      refine Sq.v (r_ext (look_t rfl) rfl) rfl rfl rfl ?_
      refine Sq.v (r_ext (look_t rfl) rfl) rfl rfl rfl ?_
      refine Sq.alloc zr36 rfl fun p3 => ?_
      refine Sq.store (i := 0) (Lens.id (Vector (BitVec 8) 512)) (v := (y1.1 : Vector (BitVec 8) 512)) (b' := (y1.1 : Vector (BitVec 8) 512)) ty36 (look_t rfl) (look_t rfl) rfl rfl rfl ?_
      refine Sq.v (r_asg (look_t rfl)) rfl rfl rfl ?_
      refine Sq.nil ?_
      refine To.next ?_
      refine Wp.seq ?_
      refine Wp.reg ?_
      refine Sq.v (r_move (look_t rfl)) rfl rfl rfl ?_
      refine Sq.nil ?_
      refine To.next ?_
      obtain ⟨m1, hm1, h⟩ := bind_some h
      refine Wp.condM (γ := (Option Nat × Nat)) (fun g2 => [(0, VP.of (x0)), (1, VP.of (x1)), (2, VP.eq (.pointer (some ⟨p1, 0, none⟩))), (4, VP.of ([] : List (Vector (BitVec 8) 512))), (5, VP.eq (slv g2.1 m1.length g2.2)), (7, VP.eq (.pointer (some ⟨p2, 0, none⟩))), (9, VP.of (y1.2)), (10, VP.of (x1)), (11, VP.of (x1.length : Int)), (12, VP.of (s1.1)), (13, VP.of (decide (s1.1 < (x1.length : Int)))), (22, VP.of (y1.2))]) (fun g2 => [⟨some p3, .var (y1.1 : Vector (BitVec 8) 512)⟩, ⟨some p2, .var (lget x1 k1 : Vector (BitVec 8) 512)⟩, ⟨g2.1, .row 36 (m1 : List (Vector (BitVec 8) 512)) g2.2⟩, ⟨some p1, .var (x0 : Vector (BitVec 8) 512)⟩]) (look_t rfl) (fun g2 => ?_) (fun hm hc => ?_) (fun hm hc => ?_)
      · clear hm1
        refine To.bnorm ?_
        refine To.next ?_
        refine Wp.reg ?_
        refine Sq.v (r_add (look_t rfl) (look_int 1)) rfl rfl rfl ?_
        refine Sq.v (r_move (look_t rfl)) rfl rfl rfl ?_
        refine Sq.nil ?_
        replace h := some_in h
        subst h
        exact To.roundG (g2.1, g2.2) 2 rfl (.same rfl (.same rfl (.same rfl (.same rfl (.same rfl (.same rfl (.same rfl (.same rfl .nil))))))))
      · have h := cond_t hc hm1
        refine Wp.reg ?_
        refine Sq.v (r_move (look_t rfl)) rfl rfl rfl ?_
        refine Sq.v (r_load (i := 1) (Lens.id (Vector (BitVec 8) 512)) (r := (lget x1 k1)) ty36 (look_t rfl) rfl rfl rfl) rfl rfl rfl ?_
        refine Sq.v (r_bsl (r := [(lget x1 k1)]) Try.underlying33 ty36 zr36 rfl rfl (.cons (by simp) (look_t rfl) (.nil))) rfl rfl rfl ?_
        obtain ⟨y2, hy2, h⟩ := bind_some h
        refine Sq.app (i := 2) Try.underlying33 ty36 zr36 (bytes := 512) (by kernel_rfl) (look_t rfl) rfl (look_t rfl) hy2 rfl fun key1 cap1 => ?_
        refine Sq.v (r_asg (look_t rfl)) rfl rfl rfl ?_
        refine Sq.nil ?_
        replace h := some_in h
        subst h
        exact To.meet 0 rfl (.same rfl (.same rfl (.same rfl (.same rfl (.same rfl (.same rfl (.same rfl (.same rfl (.same rfl (.same rfl (.same rfl (.same rfl .nil)))))))))))) (hm (key1, cap1))
      · have h := cond_f hc hm1
        refine Wp.skip ?_
        replace h := some_in h
        subst h
        exact To.meet 0 rfl (.same rfl (.same rfl (.same rfl (.same rfl (.same rfl (.same rfl (.same rfl (.same rfl (.same rfl (.same rfl (.same rfl (.same rfl .nil)))))))))))) (hm (g1.1, g1.2))
    · replace h := cond_f hc h
      refine Wp.exit ?_
      refine To.exit ?_
      replace h := some_in h
      subst h
      exact To.leaveG (g1.1, g1.2) 0 rfl (by simp) rfl (.same rfl (.same rfl (.same rfl (.same rfl (.same rfl (.same rfl (.same rfl (.same rfl (.same rfl .nil)))))))))
  · clear hl
    refine To.bexit ?_
    refine To.next ?_
    refine Wp.seq ?_
    refine Wp.reg ?_
    refine Sq.v (r_move (look_t rfl)) rfl rfl rfl ?_
    refine Sq.v (r_asg (look_t rfl)) rfl rfl rfl ?_
    refine Sq.nil ?_
    refine To.next ?_
    refine Wp.ret ?_
    refine To.freeze (α := Vector (BitVec 8) 512) 0 4 rfl rfl ?_
    replace h := some_in h
    subst h
    exact To.end1 rfl (rv_t rfl)
end Go.Proofs.Ytabodolbdalimaa
