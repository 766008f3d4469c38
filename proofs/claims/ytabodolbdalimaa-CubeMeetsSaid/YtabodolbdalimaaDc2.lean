/-
  Printed by the decompiler (dec.py) out of the seat's translation. Each function meets its functional program. Conditions: none.
-/
import Derived.Test.YtabodolbdalimaaDc1
namespace Go.Proofs.Ytabodolbdalimaa
open Go Gv
set_option linter.unusedVariables false
set_option linter.unusedSimpArgs false
set_option maxRecDepth 100000
set_option maxHeartbeats 2000000 in
theorem C_ref25_Read {x0 : Vector T_api_Value 4} {x1 : Vector T_api_Value 4} {r : (Vector (BitVec 8) 512)} (h : L_ref25_Read x0 x1 = some r) : Meets Try.prog 55 [VP.of (x0), VP.of (x1)] (VP.of (r)) := by
  unfold L_ref25_Read at h
  refine Meets.of Try.func55 rfl Try.ntmps55 rfl fun W A => ?_
  refine Wp.seq ?_
  refine Wp.reg ?_
  refine Sq.box (z := (x0 : Vector T_api_Value 4)) (look_t rfl) rfl fun p1 => ?_
  refine Sq.box (z := (x1 : Vector T_api_Value 4)) (look_t rfl) rfl fun p2 => ?_
  refine Sq.alloc zr36 rfl fun p3 => ?_
  refine Sq.nil ?_
  refine To.next ?_
  refine Wp.seq ?_
  refine Wp.reg ?_
  refine Sq.alloc zr36 rfl fun p4 => ?_
  refine Sq.nil ?_
  refine To.next ?_
  refine Wp.seq ?_
  refine Wp.seq ?_
  refine Wp.reg ?_
  refine Sq.v (r_move (look_int 0)) rfl rfl rfl ?_
  refine Sq.nil ?_
  refine To.next ?_
  refine Wp.block ?_
  obtain ⟨e1, hl, h⟩ := bind_some h
  refine Wp.loopG (σ := Int × (Vector (BitVec 8) 512)) (ε := (Int × Bool × (Vector (BitVec 8) 512))) (γ := Unit) (δ := Unit) hl (fun s1 g1 => [(0, VP.of (x0)), (1, VP.of (x1)), (2, VP.eq (.pointer (some ⟨p1, 0, none⟩))), (3, VP.eq (.pointer (some ⟨p2, 0, none⟩))), (4, VP.eq (.pointer (some ⟨p3, 0, none⟩))), (5, VP.eq (.pointer (some ⟨p4, 0, none⟩))), (11, VP.of (s1.1))]) (fun s1 g1 => [⟨some p4, .var (s1.2 : Vector (BitVec 8) 512)⟩, ⟨some p3, .var ((default : Vector (BitVec 8) 512) : Vector (BitVec 8) 512)⟩, ⟨some p2, .var (x1 : Vector T_api_Value 4)⟩, ⟨some p1, .var (x0 : Vector T_api_Value 4)⟩]) (fun q1 => Exit.exit 0) (fun q1 g1 => [(0, VP.of (x0)), (1, VP.of (x1)), (2, VP.eq (.pointer (some ⟨p1, 0, none⟩))), (3, VP.eq (.pointer (some ⟨p2, 0, none⟩))), (4, VP.eq (.pointer (some ⟨p3, 0, none⟩))), (5, VP.eq (.pointer (some ⟨p4, 0, none⟩))), (11, VP.of (q1.1)), (12, VP.of (q1.2.1))]) (fun q1 g1 => [⟨some p4, .var (q1.2.2 : Vector (BitVec 8) 512)⟩, ⟨some p3, .var ((default : Vector (BitVec 8) 512) : Vector (BitVec 8) 512)⟩, ⟨some p2, .var (x1 : Vector T_api_Value 4)⟩, ⟨some p1, .var (x0 : Vector T_api_Value 4)⟩]) () rfl (.same rfl (.same rfl (.same rfl (.same rfl (.same rfl (.same rfl (.same rfl .nil))))))) (fun s1 r h g1 => ?_) (fun g1 => ?_)
  · clear hl
    refine Wp.seq ?_
    refine Wp.reg ?_
    refine Sq.v (r_lss (look_t rfl) (look_int 4)) rfl rfl rfl ?_
    refine Sq.nil ?_
    refine To.next ?_
    refine Wp.seq ?_
    refine Wp.cond (look_t rfl) (fun hc => ?_) (fun hc => ?_)
    · replace h := cond_t hc h
      refine Wp.skip ?_
      refine To.next ?_
      refine Wp.seq ?_
      refine Wp.block ?_
      refine Wp.seq ?_
      refine Wp.reg ?_
      refine Sq.v (r_move (look_t rfl)) rfl rfl rfl ?_
      refine Sq.v (r_asg (look_t rfl)) rfl rfl rfl ?_
      refine Sq.nil ?_
      refine To.next ?_
      refine Wp.seq ?_
      obtain ⟨k1, hk1, h⟩ := bind_some h
      obtain ⟨y1, hy1, h⟩ := bind_some h
      obtain ⟨k2, hk2, h⟩ := bind_some h
      obtain ⟨y2, hy2, h⟩ := bind_some h
      refine Wp.draw mixed 10 [some 14, some 15, some 16, some 17, some 18, some 19, some 20, some 21, some 7, some 8] [[], [0], [1], [2], [], [4], [5], [6], [], []] [.val (VP.of (s1.1)), .val (VP.eq (.pointer (some ⟨p1, 0 + k1 * 2, none⟩))), .val (VP.of (vget x0 k1)), .val (VP.of (y1)), .val (VP.of (s1.1)), .val (VP.eq (.pointer (some ⟨p2, 0 + k2 * 2, none⟩))), .val (VP.of (vget x1 k2)), .val (VP.of (y2)), .new (.var (default : Vector Bool 128)), .new (.var (default : Vector Bool 128))] [false, false, false, false, false, false, false, false, false, false] (by kernel_rfl) rfl rfl rfl (fun ps1 => ⟨fun L' hL => HO.v (r_move (look_t rfl)) rfl, fun L' hL => HO.v (r_ia (k := k1) ar26 (look_t rfl) (look_t rfl) (idx_some hk1)) rfl, fun L' hL => HO.v (r_load (i := 3) ((Lens.id (Vector T_api_Value 4)).comp (Lens.idx (α := T_api_Value) 4 k1 (idx_some hk1).1)) (r := vget x0 k1) ty24 (look_t rfl) (hL _ _ rfl rfl) rfl rfl) rfl, fun L' hL => HO.v (r_call en62 (C_ref01_Read hy1) ⟨look_t rfl, trivial⟩) rfl, fun L' hL => HO.v (r_move (look_t rfl)) rfl, fun L' hL => HO.v (r_ia (k := k2) ar26 (look_t rfl) (look_t rfl) (idx_some hk2)) rfl, fun L' hL => HO.v (r_load (i := 2) ((Lens.id (Vector T_api_Value 4)).comp (Lens.idx (α := T_api_Value) 4 k2 (idx_some hk2).1)) (r := vget x1 k2) ty24 (look_t rfl) (hL _ _ rfl rfl) rfl rfl) rfl, fun L' hL => HO.v (r_call en62 (C_ref01_Read hy2) ⟨look_t rfl, trivial⟩) rfl, ao_alloc zr111, ao_alloc zr111, trivial⟩) fun ps1 => ?_
      refine Sq.store (i := 0) (Lens.id (Vector Bool 128)) (v := (y1 : Vector Bool 128)) (b' := (y1 : Vector Bool 128)) ty111 (look_t rfl) (look_t rfl) rfl rfl rfl ?_
      refine Sq.store (i := 1) (Lens.id (Vector Bool 128)) (v := (y2 : Vector Bool 128)) (b' := (y2 : Vector Bool 128)) ty111 (look_t rfl) (look_t rfl) rfl rfl rfl ?_
      refine Sq.nil ?_
      refine To.next ?_
      refine Wp.seq ?_
      refine Wp.reg ?_
      refine Sq.v (r_asg (look_int 0)) rfl rfl rfl ?_
      refine Sq.nil ?_
      refine To.next ?_
      refine Wp.block ?_
      obtain ⟨e2, hl, h⟩ := bind_some h
      refine Wp.loopG (σ := Int × (Vector (BitVec 8) 512)) (ε := (Int × Bool × (Vector (BitVec 8) 512))) (γ := Unit) (δ := Unit) hl (fun s2 g2 => [(0, VP.of (x0)), (1, VP.of (x1)), (2, VP.eq (.pointer (some ⟨p1, 0, none⟩))), (3, VP.eq (.pointer (some ⟨p2, 0, none⟩))), (4, VP.eq (.pointer (some ⟨p3, 0, none⟩))), (5, VP.eq (.pointer (some ⟨p4, 0, none⟩))), (6, VP.of (s1.1)), (7, VP.eq (.pointer (some ⟨(ps1 8), 0, none⟩))), (8, VP.eq (.pointer (some ⟨(ps1 9), 0, none⟩))), (9, VP.of (s2.1)), (11, VP.of (s1.1)), (12, VP.of (decide (s1.1 < 4)))]) (fun s2 g2 => [⟨some (ps1 8), .var (y1 : Vector Bool 128)⟩, ⟨some (ps1 9), .var (y2 : Vector Bool 128)⟩, ⟨some p4, .var (s2.2 : Vector (BitVec 8) 512)⟩, ⟨some p3, .var ((default : Vector (BitVec 8) 512) : Vector (BitVec 8) 512)⟩, ⟨some p2, .var (x1 : Vector T_api_Value 4)⟩, ⟨some p1, .var (x0 : Vector T_api_Value 4)⟩]) (fun q2 => Exit.exit 2) (fun q2 g2 => [(0, VP.of (x0)), (1, VP.of (x1)), (2, VP.eq (.pointer (some ⟨p1, 0, none⟩))), (3, VP.eq (.pointer (some ⟨p2, 0, none⟩))), (4, VP.eq (.pointer (some ⟨p3, 0, none⟩))), (5, VP.eq (.pointer (some ⟨p4, 0, none⟩))), (6, VP.of (s1.1)), (7, VP.eq (.pointer (some ⟨(ps1 8), 0, none⟩))), (8, VP.eq (.pointer (some ⟨(ps1 9), 0, none⟩))), (9, VP.of (q2.1)), (11, VP.of (s1.1)), (12, VP.of (decide (s1.1 < 4))), (23, VP.of (q2.2.1))]) (fun q2 g2 => [⟨some (ps1 8), .var (y1 : Vector Bool 128)⟩, ⟨some (ps1 9), .var (y2 : Vector Bool 128)⟩, ⟨some p4, .var (q2.2.2 : Vector (BitVec 8) 512)⟩, ⟨some p3, .var ((default : Vector (BitVec 8) 512) : Vector (BitVec 8) 512)⟩, ⟨some p2, .var (x1 : Vector T_api_Value 4)⟩, ⟨some p1, .var (x0 : Vector T_api_Value 4)⟩]) () rfl (.same rfl (.same rfl (.same rfl (.same rfl (.same rfl (.same rfl (.same rfl (.same rfl (.same rfl (.same rfl (.same rfl (.same rfl .nil)))))))))))) (fun s2 r h g2 => ?_) (fun g2 => ?_)
      · clear hl
        refine Wp.seq ?_
        refine Wp.seq ?_
        refine Wp.reg ?_
        refine Sq.v (r_move (look_t rfl)) rfl rfl rfl ?_
        refine Sq.v (r_lss (look_t rfl) (look_int 128)) rfl rfl rfl ?_
        refine Sq.nil ?_
        refine To.next ?_
        refine Wp.cond (look_t rfl) (fun hc => ?_) (fun hc => ?_)
        · replace h := cond_t hc h
          refine Wp.skip ?_
          refine To.next ?_
          refine Wp.seq ?_
          refine Wp.block ?_
          refine Wp.seq ?_
          refine Wp.reg ?_
          refine Sq.v (r_move (look_t rfl)) rfl rfl rfl ?_
          refine Sq.v (r_mul (look_int 128) (look_t rfl)) rfl rfl rfl ?_
          refine Sq.v (r_add (look_t rfl) (look_int 127)) rfl rfl rfl ?_
          refine Sq.v (r_move (look_t rfl)) rfl rfl rfl ?_
          refine Sq.v (r_sub (look_t rfl) (look_t rfl)) rfl rfl rfl ?_
          refine Sq.v (r_asg (look_t rfl)) rfl rfl rfl ?_
          refine Sq.nil ?_
          refine To.next ?_
          refine Wp.block ?_
          refine Wp.seq ?_
          refine Wp.reg ?_
          refine Sq.v (r_move (look_t rfl)) rfl rfl rfl ?_
          obtain ⟨k3, hk3, h⟩ := bind_some h
          refine Sq.v (r_ia (k := k3) ar111 (look_t rfl) (look_t rfl) (idx_some hk3)) rfl rfl rfl ?_
          refine Sq.v (r_load (i := 1) ((Lens.id (Vector Bool 128)).comp (Lens.idx (α := Bool) 128 k3 (idx_some hk3).1)) (r := vget y2 k3) ty4 (look_t rfl) rfl rfl rfl) rfl rfl rfl ?_
          refine Sq.v (r_not (look_t rfl)) rfl rfl rfl ?_
          refine Sq.v (r_asg (look_t rfl)) rfl rfl rfl ?_
          refine Sq.nil ?_
          refine To.next ?_
          obtain ⟨m1, hm1, h⟩ := bind_some h
          refine Wp.condM (γ := Unit) (fun g3 => [(0, VP.of (x0)), (1, VP.of (x1)), (2, VP.eq (.pointer (some ⟨p1, 0, none⟩))), (3, VP.eq (.pointer (some ⟨p2, 0, none⟩))), (4, VP.eq (.pointer (some ⟨p3, 0, none⟩))), (5, VP.eq (.pointer (some ⟨p4, 0, none⟩))), (6, VP.of (s1.1)), (7, VP.eq (.pointer (some ⟨(ps1 8), 0, none⟩))), (8, VP.eq (.pointer (some ⟨(ps1 9), 0, none⟩))), (9, VP.of (s2.1)), (10, VP.of (w64 ((w64 ((w64 (128 * s1.1)) + 127)) - s2.1))), (11, VP.of (s1.1)), (12, VP.of (decide (s1.1 < 4))), (23, VP.of (decide (s2.1 < 128))), (31, VP.of (!(vget y2 k3)))]) (fun g3 => [⟨some (ps1 8), .var (y1 : Vector Bool 128)⟩, ⟨some (ps1 9), .var (y2 : Vector Bool 128)⟩, ⟨some p4, .var (m1 : Vector (BitVec 8) 512)⟩, ⟨some p3, .var ((default : Vector (BitVec 8) 512) : Vector (BitVec 8) 512)⟩, ⟨some p2, .var (x1 : Vector T_api_Value 4)⟩, ⟨some p1, .var (x0 : Vector T_api_Value 4)⟩]) (look_t rfl) (fun g3 => ?_) (fun hm hc => ?_) (fun hm hc => ?_)
          · clear hm1
            refine To.bnorm ?_
            refine To.bnorm ?_
            refine To.next ?_
            refine Wp.reg ?_
            refine Sq.v (r_move (look_t rfl)) rfl rfl rfl ?_
            refine Sq.v (r_add (look_t rfl) (look_int 1)) rfl rfl rfl ?_
            refine Sq.v (r_asg (look_t rfl)) rfl rfl rfl ?_
            refine Sq.nil ?_
            replace h := some_in h
            subst h
            exact To.roundG () 0 rfl (.same rfl (.same rfl (.same rfl (.same rfl (.same rfl (.same rfl (.same rfl (.same rfl (.same rfl (.same rfl (.same rfl (.same rfl .nil))))))))))))
          · have h := cond_t hc hm1
            refine Wp.reg ?_
            refine Sq.v (r_move (look_t rfl)) rfl rfl rfl ?_
            obtain ⟨k4, hk4, h⟩ := bind_some h
            refine Sq.v (r_ia (k := k4) ar36 (look_t rfl) (look_t rfl) (idx_some hk4)) rfl rfl rfl ?_
            refine Sq.store (i := 2) ((Lens.id (Vector (BitVec 8) 512)).comp (Lens.idx (α := BitVec 8) 512 k4 (idx_some hk4).1)) (v := (2#8 : BitVec 8)) (b' := (vset s2.2 k4 (2#8) : Vector (BitVec 8) 512)) ty5 (look_t rfl) (look_u8 2 rfl) rfl rfl rfl ?_
            refine Sq.nil ?_
            replace h := some_in h
            subst h
            exact To.meet 0 rfl (.same rfl (.same rfl (.same rfl (.same rfl (.same rfl (.same rfl (.same rfl (.same rfl (.same rfl (.same rfl (.same rfl (.same rfl (.same rfl (.same rfl (.same rfl .nil))))))))))))))) (hm ())
          · have h := cond_f hc hm1
            refine Wp.seq ?_
            refine Wp.reg ?_
            refine Sq.v (r_move (look_t rfl)) rfl rfl rfl ?_
            obtain ⟨k5, hk5, h⟩ := bind_some h
            refine Sq.v (r_ia (k := k5) ar111 (look_t rfl) (look_t rfl) (idx_some hk5)) rfl rfl rfl ?_
            refine Sq.v (r_load (i := 0) ((Lens.id (Vector Bool 128)).comp (Lens.idx (α := Bool) 128 k5 (idx_some hk5).1)) (r := vget y1 k5) ty4 (look_t rfl) rfl rfl rfl) rfl rfl rfl ?_
            refine Sq.v (r_asg (look_t rfl)) rfl rfl rfl ?_
            refine Sq.nil ?_
            refine To.next ?_
            obtain ⟨m2, hm2, h⟩ := bind_some h
            refine Wp.condM (γ := Unit) (fun g4 => [(0, VP.of (x0)), (1, VP.of (x1)), (2, VP.eq (.pointer (some ⟨p1, 0, none⟩))), (3, VP.eq (.pointer (some ⟨p2, 0, none⟩))), (4, VP.eq (.pointer (some ⟨p3, 0, none⟩))), (5, VP.eq (.pointer (some ⟨p4, 0, none⟩))), (6, VP.of (s1.1)), (7, VP.eq (.pointer (some ⟨(ps1 8), 0, none⟩))), (8, VP.eq (.pointer (some ⟨(ps1 9), 0, none⟩))), (9, VP.of (s2.1)), (10, VP.of (w64 ((w64 ((w64 (128 * s1.1)) + 127)) - s2.1))), (11, VP.of (s1.1)), (12, VP.of (decide (s1.1 < 4))), (23, VP.of (decide (s2.1 < 128))), (31, VP.of (!(vget y2 k3))), (38, VP.of (vget y1 k5))]) (fun g4 => [⟨some (ps1 8), .var (y1 : Vector Bool 128)⟩, ⟨some (ps1 9), .var (y2 : Vector Bool 128)⟩, ⟨some p4, .var (m2 : Vector (BitVec 8) 512)⟩, ⟨some p3, .var ((default : Vector (BitVec 8) 512) : Vector (BitVec 8) 512)⟩, ⟨some p2, .var (x1 : Vector T_api_Value 4)⟩, ⟨some p1, .var (x0 : Vector T_api_Value 4)⟩]) (look_t rfl) (fun g4 => ?_) (fun hm hc => ?_) (fun hm hc => ?_)
            · clear hm2
              replace h := some_in h
              subst h
              exact To.meet 0 rfl (.same rfl (.same rfl (.same rfl (.same rfl (.same rfl (.same rfl (.same rfl (.same rfl (.same rfl (.same rfl (.same rfl (.same rfl (.same rfl (.same rfl (.same rfl .nil))))))))))))))) (hm ())
            · have h := cond_t hc hm2
              refine Wp.reg ?_
              refine Sq.v (r_move (look_t rfl)) rfl rfl rfl ?_
              obtain ⟨k6, hk6, h⟩ := bind_some h
              refine Sq.v (r_ia (k := k6) ar36 (look_t rfl) (look_t rfl) (idx_some hk6)) rfl rfl rfl ?_
              refine Sq.store (i := 2) ((Lens.id (Vector (BitVec 8) 512)).comp (Lens.idx (α := BitVec 8) 512 k6 (idx_some hk6).1)) (v := (1#8 : BitVec 8)) (b' := (vset s2.2 k6 (1#8) : Vector (BitVec 8) 512)) ty5 (look_t rfl) (look_u8 1 rfl) rfl rfl rfl ?_
              refine Sq.nil ?_
              replace h := some_in h
              subst h
              exact To.meet 0 rfl (.same rfl (.same rfl (.same rfl (.same rfl (.same rfl (.same rfl (.same rfl (.same rfl (.same rfl (.same rfl (.same rfl (.same rfl (.same rfl (.same rfl (.same rfl (.same rfl .nil)))))))))))))))) (hm ())
            · have h := cond_f hc hm2
              refine Wp.skip ?_
              replace h := some_in h
              subst h
              exact To.meet 0 rfl (.same rfl (.same rfl (.same rfl (.same rfl (.same rfl (.same rfl (.same rfl (.same rfl (.same rfl (.same rfl (.same rfl (.same rfl (.same rfl (.same rfl (.same rfl (.same rfl .nil)))))))))))))))) (hm ())
        · replace h := cond_f hc h
          refine Wp.exit ?_
          refine To.exit ?_
          replace h := some_in h
          subst h
          exact To.leaveG () 0 rfl (by simp) rfl (.same rfl (.same rfl (.same rfl (.same rfl (.same rfl (.same rfl (.same rfl (.same rfl (.same rfl (.same rfl (.same rfl (.same rfl (.same rfl .nil)))))))))))))
      · clear hl
        refine To.bexit ?_
        refine To.bnorm ?_
        refine To.next ?_
        refine Wp.reg ?_
        refine Sq.v (r_add (look_t rfl) (look_int 1)) rfl rfl rfl ?_
        refine Sq.v (r_move (look_t rfl)) rfl rfl rfl ?_
        refine Sq.nil ?_
        replace h := some_in h
        subst h
        exact To.roundG () 2 rfl (.same rfl (.same rfl (.same rfl (.same rfl (.same rfl (.same rfl (.same rfl .nil)))))))
    · replace h := cond_f hc h
      refine Wp.exit ?_
      refine To.exit ?_
      replace h := some_in h
      subst h
      exact To.leaveG () 0 rfl (by simp) rfl (.same rfl (.same rfl (.same rfl (.same rfl (.same rfl (.same rfl (.same rfl (.same rfl .nil))))))))
  · clear hl
    refine To.bexit ?_
    refine To.next ?_
    refine Wp.seq ?_
    refine Wp.reg ?_
    refine Sq.v (r_load (i := 0) (Lens.id (Vector (BitVec 8) 512)) (r := e1.2.2) ty36 (look_t rfl) rfl rfl rfl) rfl rfl rfl ?_
    refine Sq.store (i := 1) (Lens.id (Vector (BitVec 8) 512)) (v := (e1.2.2 : Vector (BitVec 8) 512)) (b' := (e1.2.2 : Vector (BitVec 8) 512)) ty36 (look_t rfl) (look_t rfl) rfl rfl rfl ?_
    refine Sq.nil ?_
    refine To.next ?_
    refine Wp.ret ?_
    replace h := some_in h
    subst h
    exact To.end1 rfl (rv_c (i := 1) ty36 rfl rfl)
set_option maxHeartbeats 2000000 in
theorem C_law25_bits {x0 : T_cube_Cube} {r : (Vector (BitVec 8) 512)} (h : L_law25_bits x0 = some r) : Meets Try.prog 17 [VP.of (x0)] (VP.of (r)) := by
  unfold L_law25_bits at h
  refine Meets.of Try.func17 rfl Try.ntmps17 rfl fun W A => ?_
  refine Wp.seq ?_
  refine Wp.reg ?_
  refine Sq.box (z := (x0 : T_cube_Cube)) (look_t rfl) rfl fun p1 => ?_
  refine Sq.alloc zr36 rfl fun p2 => ?_
  refine Sq.nil ?_
  refine To.next ?_
  refine Wp.seq ?_
  refine Wp.reg ?_
  refine Sq.v (r_fa fd28_0 (look_t rfl)) rfl rfl rfl ?_
  refine Sq.v (r_load (i := 1) ((Lens.id T_cube_Cube).comp le_T_cube_Cube_Value) (r := x0.f_Value) ty26 (look_t rfl) rfl rfl rfl) rfl rfl rfl ?_
  refine Sq.v (r_fa fd28_1 (look_t rfl)) rfl rfl rfl ?_
  refine Sq.v (r_load (i := 1) ((Lens.id T_cube_Cube).comp le_T_cube_Cube_Mask) (r := x0.f_Mask) ty26 (look_t rfl) rfl rfl rfl) rfl rfl rfl ?_
  obtain ⟨y1, hy1, h⟩ := bind_some h
  refine Sq.v (r_call en55 (C_ref25_Read hy1) ⟨look_t rfl, look_t rfl, trivial⟩) rfl rfl rfl ?_
  refine Sq.store (i := 0) (Lens.id (Vector (BitVec 8) 512)) (v := (y1 : Vector (BitVec 8) 512)) (b' := (y1 : Vector (BitVec 8) 512)) ty36 (look_t rfl) (look_t rfl) rfl rfl rfl ?_
  refine Sq.nil ?_
  refine To.next ?_
  refine Wp.ret ?_
  replace h := some_in h
  subst h
  exact To.end1 rfl (rv_c (i := 0) ty36 rfl rfl)
set_option maxHeartbeats 2000000 in
theorem C_ref25_Meet {x0 : Vector (BitVec 8) 512} {x1 : Vector (BitVec 8) 512} {r : (Vector (BitVec 8) 512) × Bool} (h : L_ref25_Meet x0 x1 = some r) : Meets Try.prog 26 [VP.of (x0), VP.of (x1)] (VP.tup [VP.of (r.1), VP.of (r.2)]) := by
  unfold L_ref25_Meet at h
  refine Meets.of Try.func26 rfl Try.ntmps26 rfl fun W A => ?_
  refine Wp.seq ?_
  refine Wp.reg ?_
  refine Sq.box (z := (x0 : Vector (BitVec 8) 512)) (look_t rfl) rfl fun p1 => ?_
  refine Sq.box (z := (x1 : Vector (BitVec 8) 512)) (look_t rfl) rfl fun p2 => ?_
  refine Sq.alloc zr36 rfl fun p3 => ?_
  refine Sq.v (r_asg (look_bool false)) rfl rfl rfl ?_
  refine Sq.nil ?_
  refine To.next ?_
  refine Wp.seq ?_
  refine Wp.seq ?_
  refine Wp.reg ?_
  refine Sq.v (r_move (look_int 0)) rfl rfl rfl ?_
  refine Sq.nil ?_
  refine To.next ?_
  refine Wp.block ?_
  obtain ⟨e1, hl, h⟩ := bind_some h
  refine Wp.loopG (σ := Int × (Vector (BitVec 8) 512)) (ε := (Int × Bool × (Vector (BitVec 8) 512)) ⊕ (Int × Int × Bool × Bool × Bool × (Vector (BitVec 8) 512))) (γ := Unit) (δ := Unit) hl (fun s1 g1 => [(0, VP.of (x0)), (1, VP.of (x1)), (2, VP.eq (.pointer (some ⟨p1, 0, none⟩))), (3, VP.eq (.pointer (some ⟨p2, 0, none⟩))), (4, VP.eq (.pointer (some ⟨p3, 0, none⟩))), (5, VP.of (false)), (7, VP.of (s1.1))]) (fun s1 g1 => [⟨some p3, .var ((default : Vector (BitVec 8) 512) : Vector (BitVec 8) 512)⟩, ⟨some p2, .var (x1 : Vector (BitVec 8) 512)⟩, ⟨some p1, .var (s1.2 : Vector (BitVec 8) 512)⟩]) (fun q1 => Sum.elim (fun q1 => Exit.exit 0) (fun q1 => Exit.ret) q1) (fun q1 g1 => Sum.elim (fun q1 => [(0, VP.of (x0)), (1, VP.of (x1)), (2, VP.eq (.pointer (some ⟨p1, 0, none⟩))), (3, VP.eq (.pointer (some ⟨p2, 0, none⟩))), (4, VP.eq (.pointer (some ⟨p3, 0, none⟩))), (5, VP.of (false)), (7, VP.of (q1.1)), (8, VP.of (q1.2.1))]) (fun q1 => [(0, VP.of (x0)), (1, VP.of (x1)), (2, VP.eq (.pointer (some ⟨p1, 0, none⟩))), (3, VP.eq (.pointer (some ⟨p2, 0, none⟩))), (4, VP.eq (.pointer (some ⟨p3, 0, none⟩))), (5, VP.of (false)), (6, VP.of (q1.1)), (7, VP.of (q1.2.1)), (8, VP.of (q1.2.2.1)), (10, VP.of (q1.2.2.2.1)), (20, VP.of (q1.2.2.2.2.1))]) q1) (fun q1 g1 => Sum.elim (fun q1 => [⟨some p3, .var ((default : Vector (BitVec 8) 512) : Vector (BitVec 8) 512)⟩, ⟨some p2, .var (x1 : Vector (BitVec 8) 512)⟩, ⟨some p1, .var (q1.2.2 : Vector (BitVec 8) 512)⟩]) (fun q1 => [⟨some p3, .var ((default : Vector (BitVec 8) 512) : Vector (BitVec 8) 512)⟩, ⟨some p2, .var (x1 : Vector (BitVec 8) 512)⟩, ⟨some p1, .var (q1.2.2.2.2.2 : Vector (BitVec 8) 512)⟩]) q1) () rfl (.same rfl (.same rfl (.same rfl (.same rfl (.same rfl (.same rfl (.same rfl .nil))))))) (fun s1 r h g1 => ?_) (fun g1 => ?_)
  · clear hl
    refine Wp.seq ?_
    refine Wp.reg ?_
    refine Sq.v (r_lss (look_t rfl) (look_int 512)) rfl rfl rfl ?_
    refine Sq.nil ?_
    refine To.next ?_
    refine Wp.seq ?_
    refine Wp.cond (look_t rfl) (fun hc => ?_) (fun hc => ?_)
    · replace h := cond_t hc h
      refine Wp.skip ?_
      refine To.next ?_
      refine Wp.seq ?_
      refine Wp.block ?_
      refine Wp.seq ?_
      refine Wp.reg ?_
      refine Sq.v (r_move (look_t rfl)) rfl rfl rfl ?_
      refine Sq.v (r_asg (look_t rfl)) rfl rfl rfl ?_
      refine Sq.nil ?_
      refine To.next ?_
      refine Wp.block ?_
      refine Wp.seq ?_
      refine Wp.reg ?_
      refine Sq.v (r_move (look_t rfl)) rfl rfl rfl ?_
      obtain ⟨k1, hk1, h⟩ := bind_some h
      refine Sq.v (r_ia (k := k1) ar36 (look_t rfl) (look_t rfl) (idx_some hk1)) rfl rfl rfl ?_
      refine Sq.v (r_load (i := 2) ((Lens.id (Vector (BitVec 8) 512)).comp (Lens.idx (α := BitVec 8) 512 k1 (idx_some hk1).1)) (r := vget s1.2 k1) ty5 (look_t rfl) rfl rfl rfl) rfl rfl rfl ?_
      refine Sq.v (r_eql8 (look_t rfl) (look_u8 2 rfl)) rfl rfl rfl ?_
      refine Sq.v (r_asg (look_t rfl)) rfl rfl rfl ?_
      refine Sq.nil ?_
      refine To.next ?_
      refine Wp.cond (look_t rfl) (fun hc => ?_) (fun hc => ?_)
      · replace h := cond_t hc h
        refine Wp.reg ?_
        refine Sq.v (r_move (look_t rfl)) rfl rfl rfl ?_
        refine Sq.v (r_move (look_t rfl)) rfl rfl rfl ?_
        obtain ⟨k2, hk2, h⟩ := bind_some h
        refine Sq.v (r_ia (k := k2) ar36 (look_t rfl) (look_t rfl) (idx_some hk2)) rfl rfl rfl ?_
        refine Sq.v (r_load (i := 1) ((Lens.id (Vector (BitVec 8) 512)).comp (Lens.idx (α := BitVec 8) 512 k2 (idx_some hk2).1)) (r := vget x1 k2) ty5 (look_t rfl) rfl rfl rfl) rfl rfl rfl ?_
        obtain ⟨k3, hk3, h⟩ := bind_some h
        refine Sq.v (r_ia (k := k3) ar36 (look_t rfl) (look_t rfl) (idx_some hk3)) rfl rfl rfl ?_
        refine Sq.store (i := 2) ((Lens.id (Vector (BitVec 8) 512)).comp (Lens.idx (α := BitVec 8) 512 k3 (idx_some hk3).1)) (v := (vget x1 k2 : BitVec 8)) (b' := (vset s1.2 k3 (vget x1 k2) : Vector (BitVec 8) 512)) ty5 (look_t rfl) (look_t rfl) rfl rfl rfl ?_
        refine Sq.nil ?_
        refine To.bnorm ?_
        refine To.bnorm ?_
        refine To.next ?_
        refine Wp.reg ?_
        refine Sq.v (r_add (look_t rfl) (look_int 1)) rfl rfl rfl ?_
        refine Sq.v (r_move (look_t rfl)) rfl rfl rfl ?_
        refine Sq.nil ?_
        replace h := some_in h
        subst h
        exact To.roundG () 0 rfl (.same rfl (.same rfl (.same rfl (.same rfl (.same rfl (.same rfl (.same rfl .nil)))))))
      · replace h := cond_f hc h
        refine Wp.seq ?_
        obtain ⟨k4, hk4, h⟩ := bind_some h
        obtain ⟨k5, hk5, h⟩ := bind_some h
        obtain ⟨k6, hk6, h⟩ := bind_some h
        refine Wp.draw mixed 13 [some 21, some 22, some 23, some 24, some 25, some 26, some 27, some 28, some 29, some 30, some 31, some 32, some 33] [[], [0], [1], [2], [3], [4], [4, 5], [4, 6], [4], [4, 8], [4, 9], [4, 7, 10], [4, 11]] [.val (VP.of (s1.1)), .val (VP.eq (.pointer (some ⟨p2, 0 + k4 * 1, none⟩))), .val (VP.of (vget x1 k4)), .val (VP.of ((vget x1 k4) != (2#8))), .val (VP.of ((vget x1 k4) != (2#8))), .val (VP.cond (((vget x1 k4) != (2#8)) = true) (VP.of (s1.1))), .val (VP.cond (((vget x1 k4) != (2#8)) = true) (VP.eq (.pointer (some ⟨p1, 0 + k5 * 1, none⟩)))), .val (VP.cond (((vget x1 k4) != (2#8)) = true) (VP.of (vget s1.2 k5))), .val (VP.cond (((vget x1 k4) != (2#8)) = true) (VP.of (s1.1))), .val (VP.cond (((vget x1 k4) != (2#8)) = true) (VP.eq (.pointer (some ⟨p2, 0 + k6 * 1, none⟩)))), .val (VP.cond (((vget x1 k4) != (2#8)) = true) (VP.of (vget x1 k6))), .val (VP.cond (((vget x1 k4) != (2#8)) = true) (VP.of ((vget s1.2 k5) != (vget x1 k6)))), .val (VP.of (((vget x1 k4) != (2#8)) && ((vget s1.2 k5) != (vget x1 k6))))] [false, false, false, false, false, false, false, false, false, false, false, false, false] (by kernel_rfl) rfl rfl rfl (fun ps1 => ⟨fun L' hL => HO.v (r_move (look_t rfl)) rfl, fun L' hL => HO.v (r_ia (k := k4) ar36 (look_t rfl) (look_t rfl) (idx_some hk4)) rfl, fun L' hL => HO.v (r_load (i := 1) ((Lens.id (Vector (BitVec 8) 512)).comp (Lens.idx (α := BitVec 8) 512 k4 (idx_some hk4).1)) (r := vget x1 k4) ty5 (look_t rfl) (hL _ _ rfl rfl) rfl rfl) rfl, fun L' hL => HO.v (r_neq8 (look_t rfl) (look_u8 2 rfl)) rfl, fun L' hL => HO.v (r_move (look_t rfl)) rfl, fun L' hL => HO.g (fun hb => r_move (look_t rfl)) rfl rfl rfl, fun L' hL => HO.g (fun hb => r_ia (k := k5) ar36 (look_t rfl) (look_tc rfl hb) (idx_some (condM_some hk5 hb))) rfl rfl rfl, fun L' hL => HO.g (fun hb => r_load (i := 2) ((Lens.id (Vector (BitVec 8) 512)).comp (Lens.idx (α := BitVec 8) 512 k5 (idx_some (condM_some hk5 hb)).1)) (r := vget s1.2 k5) ty5 (look_tc rfl hb) (hL _ _ rfl rfl) rfl rfl) rfl rfl rfl, fun L' hL => HO.g (fun hb => r_move (look_t rfl)) rfl rfl rfl, fun L' hL => HO.g (fun hb => r_ia (k := k6) ar36 (look_t rfl) (look_tc rfl hb) (idx_some (condM_some hk6 hb))) rfl rfl rfl, fun L' hL => HO.g (fun hb => r_load (i := 1) ((Lens.id (Vector (BitVec 8) 512)).comp (Lens.idx (α := BitVec 8) 512 k6 (idx_some (condM_some hk6 hb)).1)) (r := vget x1 k6) ty5 (look_tc rfl hb) (hL _ _ rfl rfl) rfl rfl) rfl rfl rfl, fun L' hL => HO.g (fun hb => r_neq8 (look_tc rfl hb) (look_tc rfl hb)) rfl rfl rfl, fun L' hL => HO.v (r_and (look_t rfl) (look_t rfl) (fun h => h)) rfl, trivial⟩) fun ps1 => ?_
        refine Sq.v (r_asg (look_t rfl)) rfl rfl rfl ?_
        refine Sq.nil ?_
        refine To.next ?_
        refine Wp.cond (look_t rfl) (fun hc => ?_) (fun hc => ?_)
        · replace h := cond_t hc h
          refine Wp.seq ?_
          refine Wp.reg ?_
          refine Sq.v (r_buildA (b := (default : Vector (BitVec 8) 512)) (sz := 1) rfl Try.underlying36 (by kernel_rfl) zr36 (.nil)) rfl rfl rfl ?_
          refine Sq.store (i := 0) (Lens.id (Vector (BitVec 8) 512)) (v := ((default : Vector (BitVec 8) 512) : Vector (BitVec 8) 512)) (b' := ((default : Vector (BitVec 8) 512) : Vector (BitVec 8) 512)) ty36 (look_t rfl) (look_t rfl) rfl rfl rfl ?_
          refine Sq.v (r_asg (look_bool false)) rfl rfl rfl ?_
          refine Sq.nil ?_
          refine To.next ?_
          refine Wp.ret ?_
          refine To.bret ?_
          refine To.bret ?_
          refine To.ret ?_
          replace h := some_in h
          subst h
          exact To.leaveG () 0 rfl (by simp) rfl (.same rfl (.same rfl (.same rfl (.same rfl (.same rfl (.same rfl (.same rfl (.same rfl (.same rfl (.same rfl (.same rfl .nil)))))))))))
        · replace h := cond_f hc h
          refine Wp.skip ?_
          refine To.bnorm ?_
          refine To.bnorm ?_
          refine To.next ?_
          refine Wp.reg ?_
          refine Sq.v (r_add (look_t rfl) (look_int 1)) rfl rfl rfl ?_
          refine Sq.v (r_move (look_t rfl)) rfl rfl rfl ?_
          refine Sq.nil ?_
          replace h := some_in h
          subst h
          exact To.roundG () 0 rfl (.same rfl (.same rfl (.same rfl (.same rfl (.same rfl (.same rfl (.same rfl .nil)))))))
    · replace h := cond_f hc h
      refine Wp.exit ?_
      refine To.exit ?_
      replace h := some_in h
      subst h
      exact To.leaveG () 0 rfl (by simp) rfl (.same rfl (.same rfl (.same rfl (.same rfl (.same rfl (.same rfl (.same rfl (.same rfl .nil))))))))
  · clear hl
    rcases e1 with e1 | e1
    · simp only [Sum.elim_inl] at h
      refine To.bexit ?_
      refine To.next ?_
      refine Wp.seq ?_
      refine Wp.reg ?_
      refine Sq.v (r_load (i := 2) (Lens.id (Vector (BitVec 8) 512)) (r := e1.2.2) ty36 (look_t rfl) rfl rfl rfl) rfl rfl rfl ?_
      refine Sq.store (i := 0) (Lens.id (Vector (BitVec 8) 512)) (v := (e1.2.2 : Vector (BitVec 8) 512)) (b' := (e1.2.2 : Vector (BitVec 8) 512)) ty36 (look_t rfl) (look_t rfl) rfl rfl rfl ?_
      refine Sq.v (r_asg (look_bool true)) rfl rfl rfl ?_
      refine Sq.nil ?_
      refine To.next ?_
      refine Wp.ret ?_
      replace h := some_in h
      subst h
      exact To.end2 rfl (rv_c (i := 0) ty36 rfl rfl) (rv_t rfl)
    · simp only [Sum.elim_inr] at h
      refine To.bret ?_
      refine To.ret ?_
      replace h := some_in h
      subst h
      exact To.end2 rfl (rv_c (i := 0) ty36 rfl rfl) (rv_t rfl)
set_option maxHeartbeats 2000000 in
theorem C_mcase_Mod {x0 : Int} {x1 : Int} {r : Int} (h : L_mcase_Mod x0 x1 = some r) : Meets Try.prog 20 [VP.of (x0), VP.of (x1)] (VP.of (r)) := by
  unfold L_mcase_Mod at h
  refine Meets.of Try.func20 rfl Try.ntmps20 rfl fun W A => ?_
  refine Wp.seq ?_
  refine Wp.reg ?_
  refine Sq.v (r_asg (look_int 0)) rfl rfl rfl ?_
  refine Sq.nil ?_
  refine To.next ?_
  refine Wp.seq ?_
  refine Wp.seq ?_
  refine Wp.reg ?_
  refine Sq.v (r_move (look_t rfl)) rfl rfl rfl ?_
  refine Sq.v (r_lss (look_t rfl) (look_int 1)) rfl rfl rfl ?_
  refine Sq.nil ?_
  refine To.next ?_
  refine Wp.cond (look_t rfl) (fun hc => ?_) (fun hc => ?_)
  · replace h := cond_t hc h
    refine Wp.seq ?_
    refine Wp.reg ?_
    refine Sq.v (r_asg (look_int 0)) rfl rfl rfl ?_
    refine Sq.nil ?_
    refine To.next ?_
    refine Wp.ret ?_
    refine To.ret ?_
    replace h := some_in h
    subst h
    exact To.end1 rfl (rv_t rfl)
  · replace h := cond_f hc h
    refine Wp.skip ?_
    refine To.next ?_
    refine Wp.seq ?_
    refine Wp.reg ?_
    refine Sq.v (r_move (look_t rfl)) rfl rfl rfl ?_
    refine Sq.v (r_move (look_t rfl)) rfl rfl rfl ?_
    obtain ⟨y1, hy1, h⟩ := bind_some h
    refine Sq.v (r_rem (look_t rfl) (look_t rfl) (modM_some hy1)) rfl rfl rfl ?_
    refine Sq.v (r_move (look_t rfl)) rfl rfl rfl ?_
    refine Sq.v (r_add (look_t rfl) (look_t rfl)) rfl rfl rfl ?_
    refine Sq.v (r_move (look_t rfl)) rfl rfl rfl ?_
    obtain ⟨y2, hy2, h⟩ := bind_some h
    refine Sq.v (r_rem (look_t rfl) (look_t rfl) (modM_some hy2)) rfl rfl rfl ?_
    refine Sq.v (r_asg (look_t rfl)) rfl rfl rfl ?_
    refine Sq.nil ?_
    refine To.next ?_
    refine Wp.ret ?_
    replace h := some_in h
    subst h
    exact To.end1 rfl (rv_t rfl)
set_option maxHeartbeats 2000000 in
theorem C_math_bits_OnesCount64 {x0 : BitVec 64} {r : Int} (h : L_math_bits_OnesCount64 x0 = some r) : Meets Try.prog 66 [VP.of (x0)] (VP.of (r)) := by
  unfold L_math_bits_OnesCount64 at h
  refine Meets.of Try.func66 rfl Try.ntmps66 rfl fun W A => ?_
  refine Wp.seq ?_
  refine Wp.reg ?_
  refine Sq.v (r_asg (look_int 0)) rfl rfl rfl ?_
  refine Sq.nil ?_
  refine To.next ?_
  refine Wp.seq ?_
  refine Wp.reg ?_
  refine Sq.v (r_move (look_t rfl)) rfl rfl rfl ?_
  refine Sq.v (r_shr64 (look_t rfl) (look_u64 1 rfl)) rfl rfl rfl ?_
  refine Sq.v (r_and64 (look_t rfl) (look_u64 6148914691236517205 rfl)) rfl rfl rfl ?_
  refine Sq.v (r_move (look_t rfl)) rfl rfl rfl ?_
  refine Sq.v (r_and64 (look_t rfl) (look_u64 6148914691236517205 rfl)) rfl rfl rfl ?_
  obtain ⟨z1, hz1, h⟩ := bind_some h
  refine Sq.v ((r_add64 (look_t rfl) (look_t rfl)).as (some_in hz1)) rfl rfl rfl ?_
  refine Sq.v (r_asg (look_t rfl)) rfl rfl rfl ?_
  refine Sq.nil ?_
  refine To.next ?_
  refine Wp.seq ?_
  refine Wp.reg ?_
  refine Sq.v (r_move (look_t rfl)) rfl rfl rfl ?_
  refine Sq.v (r_shr64 (look_t rfl) (look_u64 2 rfl)) rfl rfl rfl ?_
  refine Sq.v (r_and64 (look_t rfl) (look_u64 3689348814741910323 rfl)) rfl rfl rfl ?_
  refine Sq.v (r_move (look_t rfl)) rfl rfl rfl ?_
  refine Sq.v (r_and64 (look_t rfl) (look_u64 3689348814741910323 rfl)) rfl rfl rfl ?_
  obtain ⟨z2, hz2, h⟩ := bind_some h
  refine Sq.v ((r_add64 (look_t rfl) (look_t rfl)).as (some_in hz2)) rfl rfl rfl ?_
  refine Sq.v (r_asg (look_t rfl)) rfl rfl rfl ?_
  refine Sq.nil ?_
  refine To.next ?_
  refine Wp.seq ?_
  refine Wp.reg ?_
  refine Sq.v (r_move (look_t rfl)) rfl rfl rfl ?_
  refine Sq.v (r_shr64 (look_t rfl) (look_u64 4 rfl)) rfl rfl rfl ?_
  refine Sq.v (r_move (look_t rfl)) rfl rfl rfl ?_
  refine Sq.v (r_add64 (look_t rfl) (look_t rfl)) rfl rfl rfl ?_
  refine Sq.v (r_and64 (look_t rfl) (look_u64 1085102592571150095 rfl)) rfl rfl rfl ?_
  refine Sq.v (r_asg (look_t rfl)) rfl rfl rfl ?_
  refine Sq.nil ?_
  refine To.next ?_
  refine Wp.seq ?_
  refine Wp.reg ?_
  refine Sq.v (r_move (look_t rfl)) rfl rfl rfl ?_
  refine Sq.v (r_move (look_t rfl)) rfl rfl rfl ?_
  obtain ⟨z3, hz3, h⟩ := bind_some h
  refine Sq.v ((r_shr64 (look_t rfl) (look_u64 8 rfl)).as (some_in hz3)) rfl rfl rfl ?_
  refine Sq.v (r_add64 (look_t rfl) (look_t rfl)) rfl rfl rfl ?_
  refine Sq.v (r_asg (look_t rfl)) rfl rfl rfl ?_
  refine Sq.nil ?_
  refine To.next ?_
  refine Wp.seq ?_
  refine Wp.reg ?_
  refine Sq.v (r_move (look_t rfl)) rfl rfl rfl ?_
  refine Sq.v (r_move (look_t rfl)) rfl rfl rfl ?_
  obtain ⟨z4, hz4, h⟩ := bind_some h
  refine Sq.v ((r_shr64 (look_t rfl) (look_u64 16 rfl)).as (some_in hz4)) rfl rfl rfl ?_
  obtain ⟨z5, hz5, h⟩ := bind_some h
  refine Sq.v ((r_add64 (look_t rfl) (look_t rfl)).as (some_in hz5)) rfl rfl rfl ?_
  refine Sq.v (r_asg (look_t rfl)) rfl rfl rfl ?_
  refine Sq.nil ?_
  refine To.next ?_
  refine Wp.seq ?_
  refine Wp.reg ?_
  refine Sq.v (r_move (look_t rfl)) rfl rfl rfl ?_
  refine Sq.v (r_move (look_t rfl)) rfl rfl rfl ?_
  refine Sq.v (r_shr64 (look_t rfl) (look_u64 32 rfl)) rfl rfl rfl ?_
  refine Sq.v (r_add64 (look_t rfl) (look_t rfl)) rfl rfl rfl ?_
  refine Sq.v (r_asg (look_t rfl)) rfl rfl rfl ?_
  refine Sq.nil ?_
  refine To.next ?_
  refine Wp.seq ?_
  refine Wp.reg ?_
  refine Sq.v (r_move (look_t rfl)) rfl rfl rfl ?_
  refine Sq.v (r_c64i Try.underlying22 Try.underlying3 (look_t rfl)) rfl rfl rfl ?_
  refine Sq.v (r_iand (look_t rfl) (look_int 127)) rfl rfl rfl ?_
  refine Sq.v (r_asg (look_t rfl)) rfl rfl rfl ?_
  refine Sq.nil ?_
  refine To.next ?_
  refine Wp.ret ?_
  replace h := some_in h
  subst h
  exact To.end1 rfl (rv_t rfl)
set_option maxHeartbeats 2000000 in
theorem C_cube_Free {x0 : T_cube_Cube} {r : Int} (h : L_cube_Free x0 = some r) : Meets Try.prog 30 [VP.of (x0)] (VP.of (r)) := by
  unfold L_cube_Free at h
  refine Meets.of Try.func30 rfl Try.ntmps30 rfl fun W A => ?_
  refine Wp.seq ?_
  refine Wp.reg ?_
  refine Sq.box (z := (x0 : T_cube_Cube)) (look_t rfl) rfl fun p1 => ?_
  refine Sq.v (r_asg (look_int 0)) rfl rfl rfl ?_
  refine Sq.nil ?_
  refine To.next ?_
  refine Wp.seq ?_
  refine Wp.reg ?_
  refine Sq.v (r_asg (look_int 512)) rfl rfl rfl ?_
  refine Sq.nil ?_
  refine To.next ?_
  refine Wp.seq ?_
  refine Wp.seq ?_
  refine Wp.reg ?_
  refine Sq.v (r_fa fd28_1 (look_t rfl)) rfl rfl rfl ?_
  refine Sq.v (r_load (i := 0) ((Lens.id T_cube_Cube).comp le_T_cube_Cube_Mask) (r := x0.f_Mask) ty26 (look_t rfl) rfl rfl rfl) rfl rfl rfl ?_
  refine Sq.v (r_move (look_int 0)) rfl rfl rfl ?_
  refine Sq.nil ?_
  refine To.next ?_
  refine Wp.block ?_
  obtain ⟨e1, hl, h⟩ := bind_some h
  refine Wp.loopG (σ := Int × Int) (ε := (Int × Int × Bool)) (γ := Unit) (δ := Unit) hl (fun s1 g1 => [(0, VP.of (x0)), (1, VP.eq (.pointer (some ⟨p1, 0, none⟩))), (2, VP.of (0 : Int)), (3, VP.of (s1.1)), (7, VP.of (x0.f_Mask)), (8, VP.of (s1.2))]) (fun s1 g1 => [⟨some p1, .var (x0 : T_cube_Cube)⟩]) (fun q1 => Exit.exit 0) (fun q1 g1 => [(0, VP.of (x0)), (1, VP.eq (.pointer (some ⟨p1, 0, none⟩))), (2, VP.of (0 : Int)), (3, VP.of (q1.1)), (7, VP.of (x0.f_Mask)), (8, VP.of (q1.2.1)), (9, VP.of (q1.2.2))]) (fun q1 g1 => [⟨some p1, .var (x0 : T_cube_Cube)⟩]) () rfl (.same rfl (.same rfl (.same rfl (.same rfl (.same rfl (.same rfl .nil)))))) (fun s1 r h g1 => ?_) (fun g1 => ?_)
  · clear hl
    refine Wp.seq ?_
    refine Wp.reg ?_
    refine Sq.v (r_lss (look_t rfl) (look_int 4)) rfl rfl rfl ?_
    refine Sq.nil ?_
    refine To.next ?_
    refine Wp.seq ?_
    refine Wp.cond (look_t rfl) (fun hc => ?_) (fun hc => ?_)
    · replace h := cond_t hc h
      refine Wp.skip ?_
      refine To.next ?_
      refine Wp.seq ?_
      refine Wp.block ?_
      refine Wp.seq ?_
      refine Wp.reg ?_
      obtain ⟨k1, hk1, h⟩ := bind_some h
      refine Sq.v (r_index (k := k1) Try.underlying26 ty24 (look_t rfl) (look_t rfl) (idx_some hk1)) rfl rfl rfl ?_
      refine Sq.alloc zr24 rfl fun p2 => ?_
      refine Sq.store (i := 0) (Lens.id T_api_Value) (v := (vget x0.f_Mask k1 : T_api_Value)) (b' := (vget x0.f_Mask k1 : T_api_Value)) ty24 (look_t rfl) (look_t rfl) rfl rfl rfl ?_
      refine Sq.nil ?_
      refine To.next ?_
      obtain ⟨y1, hy1, h⟩ := bind_some h
      obtain ⟨y2, hy2, h⟩ := bind_some h
      refine Wp.draw mixed 9 [some 11, some 12, some 13, some 14, some 15, some 16, some 17, some 18, some 19] [[], [], [1], [2], [], [4], [5], [3, 6], [0, 7]] [.val (VP.of (s1.1)), .val (VP.eq (.pointer (some ⟨p2, 0 + 0, none⟩))), .val (VP.of ((vget x0.f_Mask k1).f_Hi)), .val (VP.of (y1)), .val (VP.eq (.pointer (some ⟨p2, 0 + 1, none⟩))), .val (VP.of ((vget x0.f_Mask k1).f_Lo)), .val (VP.of (y2)), .val (VP.of (w64 (y1 + y2))), .val (VP.of (w64 (s1.1 - (w64 (y1 + y2)))))] [false, false, false, false, false, false, false, false, false] (by kernel_rfl) rfl rfl rfl (fun ps1 => ⟨fun L' hL => HO.v (r_move (look_t rfl)) rfl, fun L' hL => HO.v (r_fa fd24_0 (look_t rfl)) rfl, fun L' hL => HO.v (r_load (i := 0) ((Lens.id T_api_Value).comp le_T_api_Value_Hi) (r := (vget x0.f_Mask k1).f_Hi) ty22 (look_t rfl) (hL _ _ rfl rfl) rfl rfl) rfl, fun L' hL => HO.v (r_call en66 (C_math_bits_OnesCount64 hy1) ⟨look_t rfl, trivial⟩) rfl, fun L' hL => HO.v (r_fa fd24_1 (look_t rfl)) rfl, fun L' hL => HO.v (r_load (i := 0) ((Lens.id T_api_Value).comp le_T_api_Value_Lo) (r := (vget x0.f_Mask k1).f_Lo) ty22 (look_t rfl) (hL _ _ rfl rfl) rfl rfl) rfl, fun L' hL => HO.v (r_call en66 (C_math_bits_OnesCount64 hy2) ⟨look_t rfl, trivial⟩) rfl, fun L' hL => HO.v (r_add (look_t rfl) (look_t rfl)) rfl, fun L' hL => HO.v (r_sub (look_t rfl) (look_t rfl)) rfl, trivial⟩) fun ps1 => ?_
      refine Sq.v (r_asg (look_t rfl)) rfl rfl rfl ?_
      refine Sq.nil ?_
      refine To.bnorm ?_
      refine To.next ?_
      refine Wp.reg ?_
      refine Sq.v (r_add (look_t rfl) (look_int 1)) rfl rfl rfl ?_
      refine Sq.v (r_move (look_t rfl)) rfl rfl rfl ?_
      refine Sq.nil ?_
      replace h := some_in h
      subst h
      exact To.roundG () 1 rfl (.same rfl (.same rfl (.same rfl (.same rfl (.same rfl (.same rfl .nil))))))
    · replace h := cond_f hc h
      refine Wp.exit ?_
      refine To.exit ?_
      replace h := some_in h
      subst h
      exact To.leaveG () 0 rfl (by simp) rfl (.same rfl (.same rfl (.same rfl (.same rfl (.same rfl (.same rfl (.same rfl .nil)))))))
  · clear hl
    refine To.bexit ?_
    refine To.next ?_
    refine Wp.seq ?_
    refine Wp.reg ?_
    refine Sq.v (r_move (look_t rfl)) rfl rfl rfl ?_
    refine Sq.v (r_asg (look_t rfl)) rfl rfl rfl ?_
    refine Sq.nil ?_
    refine To.next ?_
    refine Wp.ret ?_
    replace h := some_in h
    subst h
    exact To.end1 rfl (rv_t rfl)
set_option maxHeartbeats 2000000 in
theorem C_law25_begun  {r : Bool} (h : L_law25_begun  = some r) : Meets Try.prog 19 [] (VP.of (r)) := by
  unfold L_law25_begun at h
  refine Meets.of Try.func19 rfl Try.ntmps19 rfl fun W A => ?_
  refine Wp.seq ?_
  refine Wp.reg ?_
  refine Sq.v (r_asg (look_bool false)) rfl rfl rfl ?_
  refine Sq.nil ?_
  refine To.next ?_
  refine Wp.seq ?_
  refine Wp.reg ?_
  refine Sq.v (r_build (b := { (default : T_api_Value) with f_Lo := 3#64 }) rfl bu24 zr24 (.cons le_T_api_Value_Lo rfl (look_u64 3 rfl) rfl (.nil))) rfl rfl rfl ?_
  obtain ⟨z1, hz1, h⟩ := bind_some h
  refine Sq.v ((r_buildA (b := vset (default : Vector T_api_Value 4) 0 ({ (default : T_api_Value) with f_Lo := 3#64 })) (sz := 2) rfl Try.underlying26 (by kernel_rfl) zr26 (.cons (Lens.idx 4 0 (by decide)) rfl (look_t rfl) rfl (.nil))).as (some_in hz1)) rfl rfl rfl ?_
  refine Sq.v (r_build (b := { (default : T_api_Value) with f_Lo := 1#64 }) rfl bu24 zr24 (.cons le_T_api_Value_Lo rfl (look_u64 1 rfl) rfl (.nil))) rfl rfl rfl ?_
  obtain ⟨z2, hz2, h⟩ := bind_some h
  refine Sq.v ((r_buildA (b := vset (default : Vector T_api_Value 4) 0 ({ (default : T_api_Value) with f_Lo := 1#64 })) (sz := 2) rfl Try.underlying26 (by kernel_rfl) zr26 (.cons (Lens.idx 4 0 (by decide)) rfl (look_t rfl) rfl (.nil))).as (some_in hz2)) rfl rfl rfl ?_
  refine Sq.v (r_build (b := { f_Mask := z1, f_Value := z2 : T_cube_Cube }) rfl bu28 zr28 (.cons le_T_cube_Cube_Mask rfl (look_t rfl) rfl (.cons le_T_cube_Cube_Value rfl (look_t rfl) rfl (.nil)))) rfl rfl rfl ?_
  refine Sq.alloc zr28 rfl fun p1 => ?_
  refine Sq.store (i := 0) (Lens.id T_cube_Cube) (v := ({ f_Mask := z1, f_Value := z2 : T_cube_Cube } : T_cube_Cube)) (b' := ({ f_Mask := z1, f_Value := z2 : T_cube_Cube } : T_cube_Cube)) ty28 (look_t rfl) (look_t rfl) rfl rfl rfl ?_
  refine Sq.nil ?_
  refine To.next ?_
  refine Wp.seq ?_
  refine Wp.reg ?_
  refine Sq.v (r_build (b := (default : T_cube_Cube)) rfl bu28 zr28 (.nil)) rfl rfl rfl ?_
  refine Sq.v (r_load (i := 0) (Lens.id T_cube_Cube) (r := ({ f_Mask := z1, f_Value := z2 : T_cube_Cube })) ty28 (look_t rfl) rfl rfl rfl) rfl rfl rfl ?_
  obtain ⟨y1, hy1, h⟩ := bind_some h
  refine Sq.v (r_call en15 (C_cube_Minus hy1) ⟨look_t rfl, look_t rfl, trivial⟩) rfl rfl rfl ?_
  refine Sq.v (r_asg (look_t rfl)) rfl rfl rfl ?_
  refine Sq.nil ?_
  refine To.next ?_
  refine Wp.seq ?_
  refine Wp.reg ?_
  refine Sq.v (r_move (look_t rfl)) rfl rfl rfl ?_
  refine Sq.v (r_len Try.underlying31 (look_t rfl)) rfl rfl rfl ?_
  refine Sq.v (r_eql (look_t rfl) (look_int 2)) rfl rfl rfl ?_
  refine Sq.v (r_move (look_t rfl)) rfl rfl rfl ?_
  refine Sq.g (fun hb => r_load (i := 0) (Lens.id T_cube_Cube) (r := ({ f_Mask := z1, f_Value := z2 : T_cube_Cube })) ty28 (look_t rfl) rfl rfl rfl) rfl rfl rfl rfl rfl ?_
  obtain ⟨y2, hy2, h⟩ := bind_some h
  refine Sq.g (fun hb => r_call en30 (C_cube_Free (condM_some hy2 hb)) ⟨look_tc rfl hb, trivial⟩) rfl rfl rfl rfl rfl ?_
  refine Sq.g (fun hb => r_eql (look_tc rfl hb) (look_int 510)) rfl rfl rfl rfl rfl ?_
  refine Sq.v (r_and (look_t rfl) (look_t rfl) (fun h => h)) rfl rfl rfl ?_
  refine Sq.v (r_move (look_t rfl)) rfl rfl rfl ?_
  refine Sq.g (fun hb => r_move (look_t rfl)) rfl rfl rfl rfl rfl ?_
  obtain ⟨k1, hk1, h⟩ := bind_some h
  refine Sq.g (fun hb => r_ias (k := k1) Try.underlying31 ty28 (look_tc rfl hb) (look_int 1) (idx_some (condM_some hk1 hb))) rfl rfl rfl rfl rfl ?_
  refine Sq.g (fun hb => r_loadp ty28 (look_tc rfl hb)) rfl rfl rfl rfl rfl ?_
  obtain ⟨y3, hy3, h⟩ := bind_some h
  refine Sq.g (fun hb => r_call en30 (C_cube_Free (condM_some hy3 hb)) ⟨look_tc rfl hb, trivial⟩) rfl rfl rfl rfl rfl ?_
  refine Sq.g (fun hb => r_eql (look_tc rfl hb) (look_int 510)) rfl rfl rfl rfl rfl ?_
  refine Sq.v (r_and (look_t rfl) (look_t rfl) (fun h => h)) rfl rfl rfl ?_
  refine Sq.v (r_asg (look_t rfl)) rfl rfl rfl ?_
  refine Sq.nil ?_
  refine To.next ?_
  refine Wp.ret ?_
  replace h := some_in h
  subst h
  exact To.end1 rfl (rv_t rfl)
set_option maxHeartbeats 2000000 in
theorem C_law25_CubeFixes {x0 : Vector T_api_Value 4} {x1 : Vector T_api_Value 4} {x2 : Int} {x3 : Bool} {r : Bool} (h : L_law25_CubeFixes x0 x1 x2 x3 = some r) : Meets Try.prog 4 [VP.of (x0), VP.of (x1), VP.of (x2), VP.of (x3)] (VP.of (r)) := by
  unfold L_law25_CubeFixes at h
  refine Meets.of Try.func4 rfl Try.ntmps4 rfl fun W A => ?_
  refine Wp.seq ?_
  refine Wp.reg ?_
  refine Sq.box (z := (x0 : Vector T_api_Value 4)) (look_t rfl) rfl fun p1 => ?_
  refine Sq.box (z := (x1 : Vector T_api_Value 4)) (look_t rfl) rfl fun p2 => ?_
  refine Sq.v (r_asg (look_bool false)) rfl rfl rfl ?_
  refine Sq.nil ?_
  refine To.next ?_
  refine Wp.seq ?_
  refine Wp.reg ?_
  refine Sq.v (r_load (i := 1) (Lens.id (Vector T_api_Value 4)) (r := x0) ty26 (look_t rfl) rfl rfl rfl) rfl rfl rfl ?_
  refine Sq.v (r_load (i := 0) (Lens.id (Vector T_api_Value 4)) (r := x1) ty26 (look_t rfl) rfl rfl rfl) rfl rfl rfl ?_
  refine Sq.v (r_build (b := { f_Value := x0, f_Mask := x1 : T_cube_Cube }) rfl bu28 zr28 (.cons le_T_cube_Cube_Value rfl (look_t rfl) rfl (.cons le_T_cube_Cube_Mask rfl (look_t rfl) rfl (.nil)))) rfl rfl rfl ?_
  obtain ⟨y1, hy1, h⟩ := bind_some h
  refine Sq.v (r_call en13 (C_law25_canonical hy1) ⟨look_t rfl, trivial⟩) rfl rfl rfl ?_
  refine Sq.alloc zr28 rfl fun p3 => ?_
  refine Sq.store (i := 0) (Lens.id T_cube_Cube) (v := (y1 : T_cube_Cube)) (b' := (y1 : T_cube_Cube)) ty28 (look_t rfl) (look_t rfl) rfl rfl rfl ?_
  refine Sq.nil ?_
  refine To.next ?_
  refine Wp.seq ?_
  refine Wp.seq ?_
  refine Wp.reg ?_
  refine Sq.v (r_move (look_t rfl)) rfl rfl rfl ?_
  refine Sq.v (r_move (look_t rfl)) rfl rfl rfl ?_
  obtain ⟨y2, hy2, h⟩ := bind_some h
  refine Sq.v (r_call en20 (C_mcase_Mod hy2) ⟨look_t rfl, look_int 512, trivial⟩) rfl rfl rfl ?_
  refine Sq.v (r_bsl (r := [x2, y2, 0, 127, 128, 511, 512]) Try.underlying43 ty3 zr3 rfl rfl (.cons (by simp) (look_t rfl) (.cons (by simp) (look_t rfl) (.cons (by simp) (look_int 0) (.cons (by simp) (look_int 127) (.cons (by simp) (look_int 128) (.cons (by simp) (look_int 511) (.cons (by simp) (look_int 512) (.nil))))))))) rfl rfl rfl ?_
  refine Sq.v (r_len Try.underlying43 (look_t rfl)) rfl rfl rfl ?_
  refine Sq.v (r_move (look_int 0)) rfl rfl rfl ?_
  refine Sq.nil ?_
  refine To.next ?_
  refine Wp.block ?_
  obtain ⟨e1, hl, h⟩ := bind_some h
  refine Wp.loopG (σ := Int) (ε := (Int × Bool) ⊕ (Int × Int × Bool × Bool × Bool)) (γ := Unit) (δ := Unit) hl (fun s1 g1 => [(0, VP.of (x0)), (1, VP.of (x1)), (2, VP.of (x2)), (3, VP.of (x3)), (4, VP.eq (.pointer (some ⟨p1, 0, none⟩))), (5, VP.eq (.pointer (some ⟨p2, 0, none⟩))), (8, VP.of (false)), (9, VP.eq (.pointer (some ⟨p3, 0, none⟩))), (21, VP.of ([x2, y2, 0, 127, 128, 511, 512])), (22, VP.of ([x2, y2, 0, 127, 128, 511, 512].length : Int)), (23, VP.of (s1))]) (fun s1 g1 => [⟨some p3, .var (y1 : T_cube_Cube)⟩, ⟨some p2, .var (x1 : Vector T_api_Value 4)⟩, ⟨some p1, .var (x0 : Vector T_api_Value 4)⟩]) (fun q1 => Sum.elim (fun q1 => Exit.exit 0) (fun q1 => Exit.ret) q1) (fun q1 g1 => Sum.elim (fun q1 => [(0, VP.of (x0)), (1, VP.of (x1)), (2, VP.of (x2)), (3, VP.of (x3)), (4, VP.eq (.pointer (some ⟨p1, 0, none⟩))), (5, VP.eq (.pointer (some ⟨p2, 0, none⟩))), (8, VP.of (false)), (9, VP.eq (.pointer (some ⟨p3, 0, none⟩))), (21, VP.of ([x2, y2, 0, 127, 128, 511, 512])), (22, VP.of ([x2, y2, 0, 127, 128, 511, 512].length : Int)), (23, VP.of (q1.1)), (24, VP.of (q1.2))]) (fun q1 => [(0, VP.of (x0)), (1, VP.of (x1)), (2, VP.of (x2)), (3, VP.of (x3)), (4, VP.eq (.pointer (some ⟨p1, 0, none⟩))), (5, VP.eq (.pointer (some ⟨p2, 0, none⟩))), (8, VP.of (false)), (9, VP.eq (.pointer (some ⟨p3, 0, none⟩))), (11, VP.of (q1.1)), (21, VP.of ([x2, y2, 0, 127, 128, 511, 512])), (22, VP.of ([x2, y2, 0, 127, 128, 511, 512].length : Int)), (23, VP.of (q1.2.1)), (24, VP.of (q1.2.2.1)), (45, VP.of (q1.2.2.2.1)), (53, VP.of (q1.2.2.2.2))]) q1) (fun q1 g1 => Sum.elim (fun q1 => [⟨some p3, .var (y1 : T_cube_Cube)⟩, ⟨some p2, .var (x1 : Vector T_api_Value 4)⟩, ⟨some p1, .var (x0 : Vector T_api_Value 4)⟩]) (fun q1 => [⟨some p3, .var (y1 : T_cube_Cube)⟩, ⟨some p2, .var (x1 : Vector T_api_Value 4)⟩, ⟨some p1, .var (x0 : Vector T_api_Value 4)⟩]) q1) () rfl (.same rfl (.same rfl (.same rfl (.same rfl (.same rfl (.same rfl (.same rfl (.same rfl (.same rfl (.same rfl (.same rfl .nil))))))))))) (fun s1 r h g1 => ?_) (fun g1 => ?_)
  · clear hl
    refine Wp.seq ?_
    refine Wp.reg ?_
    refine Sq.v (r_lss (look_t rfl) (look_t rfl)) rfl rfl rfl ?_
    refine Sq.nil ?_
    refine To.next ?_
    refine Wp.seq ?_
    refine Wp.cond (look_t rfl) (fun hc => ?_) (fun hc => ?_)
    · replace h := cond_t hc h
      refine Wp.skip ?_
      refine To.next ?_
      refine Wp.seq ?_
      refine Wp.block ?_
      refine Wp.seq ?_
      refine Wp.reg ?_
      obtain ⟨k1, hk1, h⟩ := bind_some h
      refine Sq.v (r_ias (k := k1) Try.underlying43 ty3 (look_t rfl) (look_t rfl) (idx_some hk1)) rfl rfl rfl ?_
      refine Sq.v (r_loadp ty3 (look_t rfl)) rfl rfl rfl ?_
      refine Sq.v (r_asg (look_t rfl)) rfl rfl rfl ?_
      refine Sq.nil ?_
      refine To.next ?_
      refine Wp.seq ?_
      obtain ⟨y3, hy3, h⟩ := bind_some h
      obtain ⟨y4, hy4, h⟩ := bind_some h
      obtain ⟨y5, hy5, h⟩ := bind_some h
      refine Wp.draw mixed 9 [some 27, some 28, some 29, some 30, some 31, some 32, some 33, some 12, some 13] [[], [0], [], [], [], [2, 3, 4], [5], [], []] [.val (VP.of (y1)), .val (VP.of (y3)), .val (VP.of (y1)), .val (VP.of (lget [x2, y2, 0, 127, 128, 511, 512] k1)), .val (VP.of (x3)), .val (VP.of (y4)), .val (VP.of (y5)), .new (.var (default : Vector (BitVec 8) 512)), .new (.var (default : Vector (BitVec 8) 512))] [false, false, false, false, false, false, false, false, false] (by kernel_rfl) rfl rfl rfl (fun ps1 => ⟨fun L' hL => HO.v (r_load (i := 0) (Lens.id T_cube_Cube) (r := y1) ty28 (look_t rfl) (hL _ _ rfl rfl) rfl rfl) rfl, fun L' hL => HO.v (r_call en17 (C_law25_bits hy3) ⟨look_t rfl, trivial⟩) rfl, fun L' hL => HO.v (r_load (i := 0) (Lens.id T_cube_Cube) (r := y1) ty28 (look_t rfl) (hL _ _ rfl rfl) rfl rfl) rfl, fun L' hL => HO.v (r_move (look_t rfl)) rfl, fun L' hL => HO.v (r_move (look_t rfl)) rfl, fun L' hL => HO.v (r_call en21 (C_cube_Fix hy4) ⟨look_t rfl, look_t rfl, look_t rfl, trivial⟩) rfl, fun L' hL => HO.v (r_call en17 (C_law25_bits hy5) ⟨look_t rfl, trivial⟩) rfl, ao_alloc zr36, ao_alloc zr36, trivial⟩) fun ps1 => ?_
      refine Sq.store (i := 0) (Lens.id (Vector (BitVec 8) 512)) (v := (y3 : Vector (BitVec 8) 512)) (b' := (y3 : Vector (BitVec 8) 512)) ty36 (look_t rfl) (look_t rfl) rfl rfl rfl ?_
      refine Sq.store (i := 1) (Lens.id (Vector (BitVec 8) 512)) (v := (y5 : Vector (BitVec 8) 512)) (b' := (y5 : Vector (BitVec 8) 512)) ty36 (look_t rfl) (look_t rfl) rfl rfl rfl ?_
      refine Sq.nil ?_
      refine To.next ?_
      refine Wp.seq ?_
      refine Wp.seq ?_
      refine Wp.reg ?_
      refine Sq.v (r_move (look_t rfl)) rfl rfl rfl ?_
      refine Sq.v (r_geq (look_t rfl) (look_int 0)) rfl rfl rfl ?_
      refine Sq.v (r_move (look_t rfl)) rfl rfl rfl ?_
      refine Sq.g (fun hb => r_move (look_t rfl)) rfl rfl rfl rfl rfl ?_
      refine Sq.g (fun hb => r_lss (look_tc rfl hb) (look_int 512)) rfl rfl rfl rfl rfl ?_
      obtain ⟨z1, hz1, h⟩ := bind_some h
      refine Sq.v ((r_and (look_t rfl) (look_t rfl) (fun h => h)).as (some_in hz1)) rfl rfl rfl ?_
      refine Sq.v (r_move (look_t rfl)) rfl rfl rfl ?_
      refine Sq.g (fun hb => r_move (look_t rfl)) rfl rfl rfl rfl rfl ?_
      obtain ⟨k2, hk2, h⟩ := bind_some h
      refine Sq.g (fun hb => r_ia (k := k2) ar36 (look_t rfl) (look_tc rfl hb) (idx_some (condM_some hk2 hb))) rfl rfl rfl rfl rfl ?_
      refine Sq.g (fun hb => r_load (i := 0) ((Lens.id (Vector (BitVec 8) 512)).comp (Lens.idx (α := BitVec 8) 512 k2 (idx_some (condM_some hk2 hb)).1)) (r := vget y3 k2) ty5 (look_tc rfl hb) rfl rfl rfl) rfl rfl rfl rfl rfl ?_
      refine Sq.g (fun hb => r_eql8 (look_tc rfl hb) (look_u8 2 rfl)) rfl rfl rfl rfl rfl ?_
      refine Sq.v (r_and (look_t rfl) (look_t rfl) (fun h => h)) rfl rfl rfl ?_
      refine Sq.nil ?_
      refine To.next ?_
      obtain ⟨m1, hm1, h⟩ := bind_some h
      refine Wp.condM (γ := Unit) (fun g2 => [(0, VP.of (x0)), (1, VP.of (x1)), (2, VP.of (x2)), (3, VP.of (x3)), (4, VP.eq (.pointer (some ⟨p1, 0, none⟩))), (5, VP.eq (.pointer (some ⟨p2, 0, none⟩))), (8, VP.of (false)), (9, VP.eq (.pointer (some ⟨p3, 0, none⟩))), (11, VP.of (lget [x2, y2, 0, 127, 128, 511, 512] k1)), (12, VP.eq (.pointer (some ⟨(ps1 7), 0, none⟩))), (13, VP.eq (.pointer (some ⟨(ps1 8), 0, none⟩))), (21, VP.of ([x2, y2, 0, 127, 128, 511, 512])), (22, VP.of ([x2, y2, 0, 127, 128, 511, 512].length : Int)), (23, VP.of (s1)), (24, VP.of (decide (s1 < ([x2, y2, 0, 127, 128, 511, 512].length : Int)))), (45, VP.of (z1 && ((vget y3 k2) == (2#8))))]) (fun g2 => [⟨some (ps1 7), .var (m1 : Vector (BitVec 8) 512)⟩, ⟨some (ps1 8), .var (y5 : Vector (BitVec 8) 512)⟩, ⟨some p3, .var (y1 : T_cube_Cube)⟩, ⟨some p2, .var (x1 : Vector T_api_Value 4)⟩, ⟨some p1, .var (x0 : Vector T_api_Value 4)⟩]) (look_t rfl) (fun g2 => ?_) (fun hm hc => ?_) (fun hm hc => ?_)
      · clear hm1
        refine To.next ?_
        refine Wp.seq ?_
        refine Wp.reg ?_
        refine Sq.v (r_load (i := 0) (Lens.id (Vector (BitVec 8) 512)) (r := m1) ty36 (look_t rfl) rfl rfl rfl) rfl rfl rfl ?_
        refine Sq.v (r_load (i := 1) (Lens.id (Vector (BitVec 8) 512)) (r := y5) ty36 (look_t rfl) rfl rfl rfl) rfl rfl rfl ?_
        refine Sq.v (r_neA eqv36 rfl eqg36 rfl (look_t rfl) (look_t rfl)) rfl rfl rfl ?_
        refine Sq.nil ?_
        refine To.next ?_
        refine Wp.cond (look_t rfl) (fun hc => ?_) (fun hc => ?_)
        · replace h := cond_t hc h
          refine Wp.seq ?_
          refine Wp.reg ?_
          refine Sq.v (r_asg (look_bool false)) rfl rfl rfl ?_
          refine Sq.nil ?_
          refine To.next ?_
          refine Wp.ret ?_
          refine To.bret ?_
          refine To.ret ?_
          replace h := some_in h
          subst h
          exact To.leaveG () 2 rfl (by simp) rfl (.same rfl (.same rfl (.same rfl (.same rfl (.same rfl (.same rfl (.same rfl (.same rfl (.same rfl (.same rfl (.same rfl (.same rfl (.same rfl (.same rfl (.same rfl .nil)))))))))))))))
        · replace h := cond_f hc h
          refine Wp.skip ?_
          refine To.bnorm ?_
          refine To.next ?_
          refine Wp.reg ?_
          refine Sq.v (r_add (look_t rfl) (look_int 1)) rfl rfl rfl ?_
          refine Sq.v (r_move (look_t rfl)) rfl rfl rfl ?_
          refine Sq.nil ?_
          replace h := some_in h
          subst h
          exact To.roundG () 2 rfl (.same rfl (.same rfl (.same rfl (.same rfl (.same rfl (.same rfl (.same rfl (.same rfl (.same rfl (.same rfl (.same rfl .nil)))))))))))
      · have h := cond_t hc hm1
        refine Wp.seq ?_
        refine Wp.reg ?_
        refine Sq.v (r_move (look_t rfl)) rfl rfl rfl ?_
        obtain ⟨k3, hk3, h⟩ := bind_some h
        refine Sq.v (r_ia (k := k3) ar36 (look_t rfl) (look_t rfl) (idx_some hk3)) rfl rfl rfl ?_
        refine Sq.store (i := 0) ((Lens.id (Vector (BitVec 8) 512)).comp (Lens.idx (α := BitVec 8) 512 k3 (idx_some hk3).1)) (v := (0#8 : BitVec 8)) (b' := (vset y3 k3 (0#8) : Vector (BitVec 8) 512)) ty5 (look_t rfl) (look_u8 0 rfl) rfl rfl rfl ?_
        refine Sq.nil ?_
        refine To.next ?_
        refine Wp.seq ?_
        refine Wp.reg ?_
        refine Sq.v (r_move (look_t rfl)) rfl rfl rfl ?_
        refine Sq.nil ?_
        refine To.next ?_
        obtain ⟨m2, hm2, h⟩ := bind_some h
        refine Wp.condM (γ := Unit) (fun g3 => [(0, VP.of (x0)), (1, VP.of (x1)), (2, VP.of (x2)), (3, VP.of (x3)), (4, VP.eq (.pointer (some ⟨p1, 0, none⟩))), (5, VP.eq (.pointer (some ⟨p2, 0, none⟩))), (8, VP.of (false)), (9, VP.eq (.pointer (some ⟨p3, 0, none⟩))), (11, VP.of (lget [x2, y2, 0, 127, 128, 511, 512] k1)), (12, VP.eq (.pointer (some ⟨(ps1 7), 0, none⟩))), (13, VP.eq (.pointer (some ⟨(ps1 8), 0, none⟩))), (21, VP.of ([x2, y2, 0, 127, 128, 511, 512])), (22, VP.of ([x2, y2, 0, 127, 128, 511, 512].length : Int)), (23, VP.of (s1)), (24, VP.of (decide (s1 < ([x2, y2, 0, 127, 128, 511, 512].length : Int)))), (45, VP.of (z1 && ((vget y3 k2) == (2#8)))), (48, VP.of (x3))]) (fun g3 => [⟨some (ps1 7), .var (m2 : Vector (BitVec 8) 512)⟩, ⟨some (ps1 8), .var (y5 : Vector (BitVec 8) 512)⟩, ⟨some p3, .var (y1 : T_cube_Cube)⟩, ⟨some p2, .var (x1 : Vector T_api_Value 4)⟩, ⟨some p1, .var (x0 : Vector T_api_Value 4)⟩]) (look_t rfl) (fun g3 => ?_) (fun hm hc => ?_) (fun hm hc => ?_)
        · clear hm2
          replace h := some_in h
          subst h
          exact To.meet 0 rfl (.same rfl (.same rfl (.same rfl (.same rfl (.same rfl (.same rfl (.same rfl (.same rfl (.same rfl (.same rfl (.same rfl (.same rfl (.same rfl (.same rfl (.same rfl (.same rfl .nil)))))))))))))))) (hm ())
        · have h := cond_t hc hm2
          refine Wp.reg ?_
          refine Sq.v (r_move (look_t rfl)) rfl rfl rfl ?_
          obtain ⟨k4, hk4, h⟩ := bind_some h
          refine Sq.v (r_ia (k := k4) ar36 (look_t rfl) (look_t rfl) (idx_some hk4)) rfl rfl rfl ?_
          refine Sq.store (i := 0) ((Lens.id (Vector (BitVec 8) 512)).comp (Lens.idx (α := BitVec 8) 512 k4 (idx_some hk4).1)) (v := (1#8 : BitVec 8)) (b' := (vset (vset y3 k3 (0#8)) k4 (1#8) : Vector (BitVec 8) 512)) ty5 (look_t rfl) (look_u8 1 rfl) rfl rfl rfl ?_
          refine Sq.nil ?_
          replace h := some_in h
          subst h
          exact To.meet 0 rfl (.same rfl (.same rfl (.same rfl (.same rfl (.same rfl (.same rfl (.same rfl (.same rfl (.same rfl (.same rfl (.same rfl (.same rfl (.same rfl (.same rfl (.same rfl (.same rfl (.same rfl .nil))))))))))))))))) (hm ())
        · have h := cond_f hc hm2
          refine Wp.skip ?_
          replace h := some_in h
          subst h
          exact To.meet 0 rfl (.same rfl (.same rfl (.same rfl (.same rfl (.same rfl (.same rfl (.same rfl (.same rfl (.same rfl (.same rfl (.same rfl (.same rfl (.same rfl (.same rfl (.same rfl (.same rfl (.same rfl .nil))))))))))))))))) (hm ())
      · have h := cond_f hc hm1
        refine Wp.skip ?_
        replace h := some_in h
        subst h
        exact To.meet 0 rfl (.same rfl (.same rfl (.same rfl (.same rfl (.same rfl (.same rfl (.same rfl (.same rfl (.same rfl (.same rfl (.same rfl (.same rfl (.same rfl (.same rfl (.same rfl (.same rfl .nil)))))))))))))))) (hm ())
    · replace h := cond_f hc h
      refine Wp.exit ?_
      refine To.exit ?_
      replace h := some_in h
      subst h
      exact To.leaveG () 0 rfl (by simp) rfl (.same rfl (.same rfl (.same rfl (.same rfl (.same rfl (.same rfl (.same rfl (.same rfl (.same rfl (.same rfl (.same rfl (.same rfl .nil))))))))))))
  · clear hl
    rcases e1 with e1 | e1
    · simp only [Sum.elim_inl] at h
      refine To.bexit ?_
      refine To.next ?_
      refine Wp.seq ?_
      refine Wp.reg ?_
      obtain ⟨y6, hy6, h⟩ := bind_some h
      refine Sq.v (r_call en19 (C_law25_begun hy6) trivial) rfl rfl rfl ?_
      refine Sq.v (r_asg (look_t rfl)) rfl rfl rfl ?_
      refine Sq.nil ?_
      refine To.next ?_
      refine Wp.ret ?_
      replace h := some_in h
      subst h
      exact To.end1 rfl (rv_t rfl)
    · simp only [Sum.elim_inr] at h
      refine To.bret ?_
      refine To.ret ?_
      replace h := some_in h
      subst h
      exact To.end1 rfl (rv_t rfl)
set_option maxHeartbeats 2000000 in
theorem C_ref01_clamp {x0 : Int} {r : Int} (h : L_ref01_clamp x0 = some r) : Meets Try.prog 64 [VP.of (x0)] (VP.of (r)) := by
  unfold L_ref01_clamp at h
  refine Meets.of Try.func64 rfl Try.ntmps64 rfl fun W A => ?_
  refine Wp.seq ?_
  refine Wp.reg ?_
  refine Sq.v (r_asg (look_int 0)) rfl rfl rfl ?_
  refine Sq.nil ?_
  refine To.next ?_
  refine Wp.seq ?_
  refine Wp.reg ?_
  refine Sq.v (r_move (look_t rfl)) rfl rfl rfl ?_
  refine Sq.v (r_min (look_t rfl) (look_int 128)) rfl rfl rfl ?_
  refine Sq.v (r_max (look_int 0) (look_t rfl)) rfl rfl rfl ?_
  refine Sq.v (r_asg (look_t rfl)) rfl rfl rfl ?_
  refine Sq.nil ?_
  refine To.next ?_
  refine Wp.ret ?_
  replace h := some_in h
  subst h
  exact To.end1 rfl (rv_t rfl)
end Go.Proofs.Ytabodolbdalimaa
