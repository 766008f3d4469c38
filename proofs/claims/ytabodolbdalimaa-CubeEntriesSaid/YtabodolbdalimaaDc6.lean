/-
  Printed by the decompiler (dec.py) out of the seat's translation. Each function meets its functional program. Conditions: none.
-/
import Derived.Test.YtabodolbdalimaaDc1
import Derived.Test.YtabodolbdalimaaDc3
import Derived.Test.YtabodolbdalimaaDc4
import Derived.Test.YtabodolbdalimaaDc5
namespace Go.Proofs.Ytabodolbdalimaa
open Go Gv
set_option linter.unusedVariables false
set_option linter.unusedSimpArgs false
set_option maxRecDepth 100000
set_option maxHeartbeats 2000000 in
theorem C_ref25_Read {x0 : Vector T_api_Value 4} {x1 : Vector T_api_Value 4}  {r : (Vector (BitVec 8) 512)} (h : L_ref25_Read x0 x1 = some r) : Meets Try.prog 55 [VP.of (x0), VP.of (x1)] (VP.of (r)) := by
  unfold L_ref25_Read at h
  refine Meets.of Try.func55 rfl Try.ntmps55 rfl fun W A => ?_
  refine Wp.seq ?_
  refine Wp.reg ?_
  refine Sq.box (z := (x0 : Vector T_api_Value 4)) (look_t rfl) rfl fun p1 => ?_
  refine Sq.box (z := (x1 : Vector T_api_Value 4)) (look_t rfl) rfl fun p2 => ?_
  refine Sq.alloc zr36 rfl fun p3 => ?_
  refine Sq.nil ?_
  refine To.next ?_
  refine Wp.seq ?_
  refine Wp.reg ?_
  refine Sq.alloc zr36 rfl fun p4 => ?_
  refine Sq.nil ?_
  refine To.next ?_
  refine Wp.seq ?_
  refine Wp.seq ?_
  refine Wp.reg ?_
  refine Sq.v (r_move (look_int 0)) rfl rfl rfl ?_
  refine Sq.nil ?_
  refine To.next ?_
  refine Wp.block ?_
  obtain ⟨e1, hl, h⟩ := bind_some h
  refine Wp.loopG (σ := Int × (Vector (BitVec 8) 512)) (ε := (Int × Bool × (Vector (BitVec 8) 512))) (γ := Unit) (δ := Unit) hl (fun s1 g1 => [(0, VP.of (x0)), (1, VP.of (x1)), (2, VP.eq (.pointer (some ⟨p1, 0, none⟩))), (3, VP.eq (.pointer (some ⟨p2, 0, none⟩))), (4, VP.eq (.pointer (some ⟨p3, 0, none⟩))), (5, VP.eq (.pointer (some ⟨p4, 0, none⟩))), (11, VP.of (s1.1))]) (fun s1 g1 => [⟨some p4, .var (s1.2 : Vector (BitVec 8) 512)⟩, ⟨some p3, .var ((default : Vector (BitVec 8) 512) : Vector (BitVec 8) 512)⟩, ⟨some p2, .var (x1 : Vector T_api_Value 4)⟩, ⟨some p1, .var (x0 : Vector T_api_Value 4)⟩]) (fun q1 => Exit.exit 0) (fun q1 g1 => [(0, VP.of (x0)), (1, VP.of (x1)), (2, VP.eq (.pointer (some ⟨p1, 0, none⟩))), (3, VP.eq (.pointer (some ⟨p2, 0, none⟩))), (4, VP.eq (.pointer (some ⟨p3, 0, none⟩))), (5, VP.eq (.pointer (some ⟨p4, 0, none⟩))), (11, VP.of (q1.1)), (12, VP.of (q1.2.1))]) (fun q1 g1 => [⟨some p4, .var (q1.2.2 : Vector (BitVec 8) 512)⟩, ⟨some p3, .var ((default : Vector (BitVec 8) 512) : Vector (BitVec 8) 512)⟩, ⟨some p2, .var (x1 : Vector T_api_Value 4)⟩, ⟨some p1, .var (x0 : Vector T_api_Value 4)⟩]) () rfl (.same rfl (.same rfl (.same rfl (.same rfl (.same rfl (.same rfl (.same rfl .nil))))))) (fun s1 r h g1 => ?_) (fun g1 => ?_)
  · clear hl
    refine Wp.seq ?_
    refine Wp.reg ?_
    refine Sq.v (r_lss (look_t rfl) (look_int 4)) rfl rfl rfl ?_
    refine Sq.nil ?_
    refine To.next ?_
    refine Wp.seq ?_
    refine Wp.cond (look_t rfl) (fun hc => ?_) (fun hc => ?_)
    · replace h := cond_t hc h
      refine Wp.skip ?_
      refine To.next ?_
      refine Wp.seq ?_
      refine Wp.block ?_
      refine Wp.seq ?_
      refine Wp.reg ?_
      refine Sq.v (r_move (look_t rfl)) rfl rfl rfl ?_
      refine Sq.v (r_asg (look_t rfl)) rfl rfl rfl ?_
      refine Sq.nil ?_
      refine To.next ?_
      refine Wp.seq ?_
      obtain ⟨k1, hk1, h⟩ := bind_some h
      obtain ⟨y1, hy1, h⟩ := bind_some h
      obtain ⟨k2, hk2, h⟩ := bind_some h
      obtain ⟨y2, hy2, h⟩ := bind_some h
      refine Wp.draw mixed 10 [some 14, some 15, some 16, some 17, some 18, some 19, some 20, some 21, some 7, some 8] [[], [0], [1], [2], [], [4], [5], [6], [], []] [.val (VP.of (s1.1)), .val (VP.eq (.pointer (some ⟨p1, 0 + k1 * 2, none⟩))), .val (VP.of (vget x0 k1)), .val (VP.of (y1)), .val (VP.of (s1.1)), .val (VP.eq (.pointer (some ⟨p2, 0 + k2 * 2, none⟩))), .val (VP.of (vget x1 k2)), .val (VP.of (y2)), .new (.var (default : Vector Bool 128)), .new (.var (default : Vector Bool 128))] [false, false, false, false, false, false, false, false, false, false] (by kernel_rfl) rfl rfl rfl (fun ps1 => ⟨fun L' hL => HO.v (r_move (look_t rfl)) rfl, fun L' hL => HO.v (r_ia (k := k1) ar26 (look_t rfl) (look_t rfl) (idx_some hk1)) rfl, fun L' hL => HO.v (r_load (i := 3) ((Lens.id (Vector T_api_Value 4)).comp (Lens.idx (α := T_api_Value) 4 k1 (idx_some hk1).1)) (r := vget x0 k1) ty24 (look_t rfl) (hL _ _ rfl rfl) rfl rfl) rfl, fun L' hL => HO.v (r_call en62 (C_ref01_Read hy1) ⟨look_t rfl, trivial⟩) rfl, fun L' hL => HO.v (r_move (look_t rfl)) rfl, fun L' hL => HO.v (r_ia (k := k2) ar26 (look_t rfl) (look_t rfl) (idx_some hk2)) rfl, fun L' hL => HO.v (r_load (i := 2) ((Lens.id (Vector T_api_Value 4)).comp (Lens.idx (α := T_api_Value) 4 k2 (idx_some hk2).1)) (r := vget x1 k2) ty24 (look_t rfl) (hL _ _ rfl rfl) rfl rfl) rfl, fun L' hL => HO.v (r_call en62 (C_ref01_Read hy2) ⟨look_t rfl, trivial⟩) rfl, ao_alloc zr111, ao_alloc zr111, trivial⟩) fun ps1 => ?_
      refine Sq.store (i := 0) (Lens.id (Vector Bool 128)) (v := (y1 : Vector Bool 128)) (b' := (y1 : Vector Bool 128)) ty111 (look_t rfl) (look_t rfl) rfl rfl rfl ?_
      refine Sq.store (i := 1) (Lens.id (Vector Bool 128)) (v := (y2 : Vector Bool 128)) (b' := (y2 : Vector Bool 128)) ty111 (look_t rfl) (look_t rfl) rfl rfl rfl ?_
      refine Sq.nil ?_
      refine To.next ?_
      refine Wp.seq ?_
      refine Wp.reg ?_
      refine Sq.v (r_asg (look_int 0)) rfl rfl rfl ?_
      refine Sq.nil ?_
      refine To.next ?_
      refine Wp.block ?_
      obtain ⟨e2, hl, h⟩ := bind_some h
      refine Wp.loopG (σ := Int × (Vector (BitVec 8) 512)) (ε := (Int × Bool × (Vector (BitVec 8) 512))) (γ := Unit) (δ := Unit) hl (fun s2 g2 => [(0, VP.of (x0)), (1, VP.of (x1)), (2, VP.eq (.pointer (some ⟨p1, 0, none⟩))), (3, VP.eq (.pointer (some ⟨p2, 0, none⟩))), (4, VP.eq (.pointer (some ⟨p3, 0, none⟩))), (5, VP.eq (.pointer (some ⟨p4, 0, none⟩))), (6, VP.of (s1.1)), (7, VP.eq (.pointer (some ⟨(ps1 8), 0, none⟩))), (8, VP.eq (.pointer (some ⟨(ps1 9), 0, none⟩))), (9, VP.of (s2.1)), (11, VP.of (s1.1)), (12, VP.of (decide (s1.1 < 4)))]) (fun s2 g2 => [⟨some (ps1 8), .var (y1 : Vector Bool 128)⟩, ⟨some (ps1 9), .var (y2 : Vector Bool 128)⟩, ⟨some p4, .var (s2.2 : Vector (BitVec 8) 512)⟩, ⟨some p3, .var ((default : Vector (BitVec 8) 512) : Vector (BitVec 8) 512)⟩, ⟨some p2, .var (x1 : Vector T_api_Value 4)⟩, ⟨some p1, .var (x0 : Vector T_api_Value 4)⟩]) (fun q2 => Exit.exit 2) (fun q2 g2 => [(0, VP.of (x0)), (1, VP.of (x1)), (2, VP.eq (.pointer (some ⟨p1, 0, none⟩))), (3, VP.eq (.pointer (some ⟨p2, 0, none⟩))), (4, VP.eq (.pointer (some ⟨p3, 0, none⟩))), (5, VP.eq (.pointer (some ⟨p4, 0, none⟩))), (6, VP.of (s1.1)), (7, VP.eq (.pointer (some ⟨(ps1 8), 0, none⟩))), (8, VP.eq (.pointer (some ⟨(ps1 9), 0, none⟩))), (9, VP.of (q2.1)), (11, VP.of (s1.1)), (12, VP.of (decide (s1.1 < 4))), (23, VP.of (q2.2.1))]) (fun q2 g2 => [⟨some (ps1 8), .var (y1 : Vector Bool 128)⟩, ⟨some (ps1 9), .var (y2 : Vector Bool 128)⟩, ⟨some p4, .var (q2.2.2 : Vector (BitVec 8) 512)⟩, ⟨some p3, .var ((default : Vector (BitVec 8) 512) : Vector (BitVec 8) 512)⟩, ⟨some p2, .var (x1 : Vector T_api_Value 4)⟩, ⟨some p1, .var (x0 : Vector T_api_Value 4)⟩]) () rfl (.same rfl (.same rfl (.same rfl (.same rfl (.same rfl (.same rfl (.same rfl (.same rfl (.same rfl (.same rfl (.same rfl (.same rfl .nil)))))))))))) (fun s2 r h g2 => ?_) (fun g2 => ?_)
      · clear hl
        refine Wp.seq ?_
        refine Wp.seq ?_
        refine Wp.reg ?_
        refine Sq.v (r_move (look_t rfl)) rfl rfl rfl ?_
        refine Sq.v (r_lss (look_t rfl) (look_int 128)) rfl rfl rfl ?_
        refine Sq.nil ?_
        refine To.next ?_
        refine Wp.cond (look_t rfl) (fun hc => ?_) (fun hc => ?_)
        · replace h := cond_t hc h
          refine Wp.skip ?_
          refine To.next ?_
          refine Wp.seq ?_
          refine Wp.block ?_
          refine Wp.seq ?_
          refine Wp.reg ?_
          refine Sq.v (r_move (look_t rfl)) rfl rfl rfl ?_
          refine Sq.v (r_mul (look_int 128) (look_t rfl)) rfl rfl rfl ?_
          refine Sq.v (r_add (look_t rfl) (look_int 127)) rfl rfl rfl ?_
          refine Sq.v (r_move (look_t rfl)) rfl rfl rfl ?_
          refine Sq.v (r_sub (look_t rfl) (look_t rfl)) rfl rfl rfl ?_
          refine Sq.v (r_asg (look_t rfl)) rfl rfl rfl ?_
          refine Sq.nil ?_
          refine To.next ?_
          refine Wp.block ?_
          refine Wp.seq ?_
          refine Wp.reg ?_
          refine Sq.v (r_move (look_t rfl)) rfl rfl rfl ?_
          obtain ⟨k3, hk3, h⟩ := bind_some h
          refine Sq.v (r_ia (k := k3) ar111 (look_t rfl) (look_t rfl) (idx_some hk3)) rfl rfl rfl ?_
          refine Sq.v (r_load (i := 1) ((Lens.id (Vector Bool 128)).comp (Lens.idx (α := Bool) 128 k3 (idx_some hk3).1)) (r := vget y2 k3) ty4 (look_t rfl) rfl rfl rfl) rfl rfl rfl ?_
          refine Sq.v (r_not (look_t rfl)) rfl rfl rfl ?_
          refine Sq.v (r_asg (look_t rfl)) rfl rfl rfl ?_
          refine Sq.nil ?_
          refine To.next ?_
          obtain ⟨m1, hm1, h⟩ := bind_some h
          refine Wp.condM (γ := Unit) (fun g3 => [(0, VP.of (x0)), (1, VP.of (x1)), (2, VP.eq (.pointer (some ⟨p1, 0, none⟩))), (3, VP.eq (.pointer (some ⟨p2, 0, none⟩))), (4, VP.eq (.pointer (some ⟨p3, 0, none⟩))), (5, VP.eq (.pointer (some ⟨p4, 0, none⟩))), (6, VP.of (s1.1)), (7, VP.eq (.pointer (some ⟨(ps1 8), 0, none⟩))), (8, VP.eq (.pointer (some ⟨(ps1 9), 0, none⟩))), (9, VP.of (s2.1)), (10, VP.of (w64 ((w64 ((w64 (128 * s1.1)) + 127)) - s2.1))), (11, VP.of (s1.1)), (12, VP.of (decide (s1.1 < 4))), (23, VP.of (decide (s2.1 < 128))), (31, VP.of (!(vget y2 k3)))]) (fun g3 => [⟨some (ps1 8), .var (y1 : Vector Bool 128)⟩, ⟨some (ps1 9), .var (y2 : Vector Bool 128)⟩, ⟨some p4, .var (m1 : Vector (BitVec 8) 512)⟩, ⟨some p3, .var ((default : Vector (BitVec 8) 512) : Vector (BitVec 8) 512)⟩, ⟨some p2, .var (x1 : Vector T_api_Value 4)⟩, ⟨some p1, .var (x0 : Vector T_api_Value 4)⟩]) (look_t rfl) (fun g3 => ?_) (fun hm hc => ?_) (fun hm hc => ?_)
          · clear hm1
            refine To.bnorm ?_
            refine To.bnorm ?_
            refine To.next ?_
            refine Wp.reg ?_
            refine Sq.v (r_move (look_t rfl)) rfl rfl rfl ?_
            refine Sq.v (r_add (look_t rfl) (look_int 1)) rfl rfl rfl ?_
            refine Sq.v (r_asg (look_t rfl)) rfl rfl rfl ?_
            refine Sq.nil ?_
            replace h := some_in h
            subst h
            exact To.roundG () 0 rfl (.same rfl (.same rfl (.same rfl (.same rfl (.same rfl (.same rfl (.same rfl (.same rfl (.same rfl (.same rfl (.same rfl (.same rfl .nil))))))))))))
          · have h := cond_t hc hm1
            refine Wp.reg ?_
            refine Sq.v (r_move (look_t rfl)) rfl rfl rfl ?_
            obtain ⟨k4, hk4, h⟩ := bind_some h
            refine Sq.v (r_ia (k := k4) ar36 (look_t rfl) (look_t rfl) (idx_some hk4)) rfl rfl rfl ?_
            refine Sq.store (i := 2) ((Lens.id (Vector (BitVec 8) 512)).comp (Lens.idx (α := BitVec 8) 512 k4 (idx_some hk4).1)) (v := (2#8 : BitVec 8)) (b' := (vset s2.2 k4 (2#8) : Vector (BitVec 8) 512)) ty5 (look_t rfl) (look_u8 2 rfl) rfl rfl rfl ?_
            refine Sq.nil ?_
            replace h := some_in h
            subst h
            exact To.meet 0 rfl (.same rfl (.same rfl (.same rfl (.same rfl (.same rfl (.same rfl (.same rfl (.same rfl (.same rfl (.same rfl (.same rfl (.same rfl (.same rfl (.same rfl (.same rfl .nil))))))))))))))) (hm ())
          · have h := cond_f hc hm1
            refine Wp.seq ?_
            refine Wp.reg ?_
            refine Sq.v (r_move (look_t rfl)) rfl rfl rfl ?_
            obtain ⟨k5, hk5, h⟩ := bind_some h
            refine Sq.v (r_ia (k := k5) ar111 (look_t rfl) (look_t rfl) (idx_some hk5)) rfl rfl rfl ?_
            refine Sq.v (r_load (i := 0) ((Lens.id (Vector Bool 128)).comp (Lens.idx (α := Bool) 128 k5 (idx_some hk5).1)) (r := vget y1 k5) ty4 (look_t rfl) rfl rfl rfl) rfl rfl rfl ?_
            refine Sq.v (r_asg (look_t rfl)) rfl rfl rfl ?_
            refine Sq.nil ?_
            refine To.next ?_
            obtain ⟨m2, hm2, h⟩ := bind_some h
            refine Wp.condM (γ := Unit) (fun g4 => [(0, VP.of (x0)), (1, VP.of (x1)), (2, VP.eq (.pointer (some ⟨p1, 0, none⟩))), (3, VP.eq (.pointer (some ⟨p2, 0, none⟩))), (4, VP.eq (.pointer (some ⟨p3, 0, none⟩))), (5, VP.eq (.pointer (some ⟨p4, 0, none⟩))), (6, VP.of (s1.1)), (7, VP.eq (.pointer (some ⟨(ps1 8), 0, none⟩))), (8, VP.eq (.pointer (some ⟨(ps1 9), 0, none⟩))), (9, VP.of (s2.1)), (10, VP.of (w64 ((w64 ((w64 (128 * s1.1)) + 127)) - s2.1))), (11, VP.of (s1.1)), (12, VP.of (decide (s1.1 < 4))), (23, VP.of (decide (s2.1 < 128))), (31, VP.of (!(vget y2 k3))), (38, VP.of (vget y1 k5))]) (fun g4 => [⟨some (ps1 8), .var (y1 : Vector Bool 128)⟩, ⟨some (ps1 9), .var (y2 : Vector Bool 128)⟩, ⟨some p4, .var (m2 : Vector (BitVec 8) 512)⟩, ⟨some p3, .var ((default : Vector (BitVec 8) 512) : Vector (BitVec 8) 512)⟩, ⟨some p2, .var (x1 : Vector T_api_Value 4)⟩, ⟨some p1, .var (x0 : Vector T_api_Value 4)⟩]) (look_t rfl) (fun g4 => ?_) (fun hm hc => ?_) (fun hm hc => ?_)
            · clear hm2
              replace h := some_in h
              subst h
              exact To.meet 0 rfl (.same rfl (.same rfl (.same rfl (.same rfl (.same rfl (.same rfl (.same rfl (.same rfl (.same rfl (.same rfl (.same rfl (.same rfl (.same rfl (.same rfl (.same rfl .nil))))))))))))))) (hm ())
            · have h := cond_t hc hm2
              refine Wp.reg ?_
              refine Sq.v (r_move (look_t rfl)) rfl rfl rfl ?_
              obtain ⟨k6, hk6, h⟩ := bind_some h
              refine Sq.v (r_ia (k := k6) ar36 (look_t rfl) (look_t rfl) (idx_some hk6)) rfl rfl rfl ?_
              refine Sq.store (i := 2) ((Lens.id (Vector (BitVec 8) 512)).comp (Lens.idx (α := BitVec 8) 512 k6 (idx_some hk6).1)) (v := (1#8 : BitVec 8)) (b' := (vset s2.2 k6 (1#8) : Vector (BitVec 8) 512)) ty5 (look_t rfl) (look_u8 1 rfl) rfl rfl rfl ?_
              refine Sq.nil ?_
              replace h := some_in h
              subst h
              exact To.meet 0 rfl (.same rfl (.same rfl (.same rfl (.same rfl (.same rfl (.same rfl (.same rfl (.same rfl (.same rfl (.same rfl (.same rfl (.same rfl (.same rfl (.same rfl (.same rfl (.same rfl .nil)))))))))))))))) (hm ())
            · have h := cond_f hc hm2
              refine Wp.skip ?_
              replace h := some_in h
              subst h
              exact To.meet 0 rfl (.same rfl (.same rfl (.same rfl (.same rfl (.same rfl (.same rfl (.same rfl (.same rfl (.same rfl (.same rfl (.same rfl (.same rfl (.same rfl (.same rfl (.same rfl (.same rfl .nil)))))))))))))))) (hm ())
        · replace h := cond_f hc h
          refine Wp.exit ?_
          refine To.exit ?_
          replace h := some_in h
          subst h
          exact To.leaveG () 0 rfl (by simp) rfl (.same rfl (.same rfl (.same rfl (.same rfl (.same rfl (.same rfl (.same rfl (.same rfl (.same rfl (.same rfl (.same rfl (.same rfl (.same rfl .nil)))))))))))))
      · clear hl
        refine To.bexit ?_
        refine To.bnorm ?_
        refine To.next ?_
        refine Wp.reg ?_
        refine Sq.v (r_add (look_t rfl) (look_int 1)) rfl rfl rfl ?_
        refine Sq.v (r_move (look_t rfl)) rfl rfl rfl ?_
        refine Sq.nil ?_
        replace h := some_in h
        subst h
        exact To.roundG () 2 rfl (.same rfl (.same rfl (.same rfl (.same rfl (.same rfl (.same rfl (.same rfl .nil)))))))
    · replace h := cond_f hc h
      refine Wp.exit ?_
      refine To.exit ?_
      replace h := some_in h
      subst h
      exact To.leaveG () 0 rfl (by simp) rfl (.same rfl (.same rfl (.same rfl (.same rfl (.same rfl (.same rfl (.same rfl (.same rfl .nil))))))))
  · clear hl
    refine To.bexit ?_
    refine To.next ?_
    refine Wp.seq ?_
    refine Wp.reg ?_
    refine Sq.v (r_load (i := 0) (Lens.id (Vector (BitVec 8) 512)) (r := e1.2.2) ty36 (look_t rfl) rfl rfl rfl) rfl rfl rfl ?_
    refine Sq.store (i := 1) (Lens.id (Vector (BitVec 8) 512)) (v := (e1.2.2 : Vector (BitVec 8) 512)) (b' := (e1.2.2 : Vector (BitVec 8) 512)) ty36 (look_t rfl) (look_t rfl) rfl rfl rfl ?_
    refine Sq.nil ?_
    refine To.next ?_
    refine Wp.ret ?_
    replace h := some_in h
    subst h
    exact To.end1 rfl (rv_c (i := 1) ty36 rfl rfl)
set_option maxHeartbeats 2000000 in
theorem C_cube_Contains {x0 : T_cube_Cube} {x1 : Vector T_api_Value 4}  {r : Bool} (h : L_cube_Contains x0 x1 = some r) : Meets Try.prog 25 [VP.of (x0), VP.of (x1)] (VP.of (r)) := by
  unfold L_cube_Contains at h
  refine Meets.of Try.func25 rfl Try.ntmps25 rfl fun W A => ?_
  refine Wp.seq ?_
  refine Wp.reg ?_
  refine Sq.box (z := (x0 : T_cube_Cube)) (look_t rfl) rfl fun p1 => ?_
  refine Sq.box (z := (x1 : Vector T_api_Value 4)) (look_t rfl) rfl fun p2 => ?_
  refine Sq.v (r_asg (look_bool false)) rfl rfl rfl ?_
  refine Sq.nil ?_
  refine To.next ?_
  refine Wp.seq ?_
  obtain ⟨y1, hy1, h⟩ := bind_some h
  refine Wp.draw mixed 7 [some 5, some 6, some 7, some 8, some 9, some 10, some 11] [[], [], [1], [0, 2], [], [4], [3, 5]] [.val (VP.of (x1)), .val (VP.eq (.pointer (some ⟨p1, 0 + 8, none⟩))), .val (VP.of (x0.f_Mask)), .val (VP.of (y1)), .val (VP.eq (.pointer (some ⟨p1, 0 + 0, none⟩))), .val (VP.of (x0.f_Value)), .val (VP.of (decide (y1 = x0.f_Value)))] [false, false, false, false, false, false, false] (by kernel_rfl) rfl rfl rfl (fun ps1 => ⟨fun L' hL => HO.v (r_load (i := 0) (Lens.id (Vector T_api_Value 4)) (r := x1) ty26 (look_t rfl) (hL _ _ rfl rfl) rfl rfl) rfl, fun L' hL => HO.v (r_fa fd28_1 (look_t rfl)) rfl, fun L' hL => HO.v (r_load (i := 1) ((Lens.id T_cube_Cube).comp le_T_cube_Cube_Mask) (r := x0.f_Mask) ty26 (look_t rfl) (hL _ _ rfl rfl) rfl rfl) rfl, fun L' hL => HO.v (r_call en52 (C_cube_combined hy1) ⟨look_t rfl, look_t rfl, look_fn2 en56 (fun _ _ _ => C_value_And), trivial⟩) rfl, fun L' hL => HO.v (r_fa fd28_0 (look_t rfl)) rfl, fun L' hL => HO.v (r_load (i := 1) ((Lens.id T_cube_Cube).comp le_T_cube_Cube_Value) (r := x0.f_Value) ty26 (look_t rfl) (hL _ _ rfl rfl) rfl rfl) rfl, fun L' hL => HO.v (r_eqA eqv26 rfl eqg26 rfl (look_t rfl) (look_t rfl)) rfl, trivial⟩) fun ps1 => ?_
  refine Sq.v (r_asg (look_t rfl)) rfl rfl rfl ?_
  refine Sq.nil ?_
  refine To.next ?_
  refine Wp.ret ?_
  replace h := some_in h
  subst h
  exact To.end1 rfl (rv_t rfl)
set_option maxHeartbeats 2000000 in
theorem C_cube_Meet {x0 : T_cube_Cube} {x1 : T_cube_Cube}  {r : T_cube_Cube × Bool} (h : L_cube_Meet x0 x1 = some r) : Meets Try.prog 18 [VP.of (x0), VP.of (x1)] (VP.tup [VP.of (r.1), VP.of (r.2)]) := by
  unfold L_cube_Meet at h
  refine Meets.of Try.func18 rfl Try.ntmps18 rfl fun W A => ?_
  refine Wp.seq ?_
  refine Wp.reg ?_
  refine Sq.box (z := (x0 : T_cube_Cube)) (look_t rfl) rfl fun p1 => ?_
  refine Sq.box (z := (x1 : T_cube_Cube)) (look_t rfl) rfl fun p2 => ?_
  refine Sq.alloc zr28 rfl fun p3 => ?_
  refine Sq.v (r_asg (look_bool false)) rfl rfl rfl ?_
  refine Sq.nil ?_
  refine To.next ?_
  refine Wp.seq ?_
  refine Wp.reg ?_
  refine Sq.v (r_fa fd28_1 (look_t rfl)) rfl rfl rfl ?_
  refine Sq.v (r_load (i := 2) ((Lens.id T_cube_Cube).comp le_T_cube_Cube_Mask) (r := x0.f_Mask) ty26 (look_t rfl) rfl rfl rfl) rfl rfl rfl ?_
  refine Sq.v (r_fa fd28_1 (look_t rfl)) rfl rfl rfl ?_
  refine Sq.v (r_load (i := 1) ((Lens.id T_cube_Cube).comp le_T_cube_Cube_Mask) (r := x1.f_Mask) ty26 (look_t rfl) rfl rfl rfl) rfl rfl rfl ?_
  obtain ⟨y1, hy1, h⟩ := bind_some h
  refine Sq.v (r_call en52 (C_cube_combined hy1) ⟨look_t rfl, look_t rfl, look_fn2 en56 (fun _ _ _ => C_value_And), trivial⟩) rfl rfl rfl ?_
  refine Sq.alloc zr26 rfl fun p4 => ?_
  refine Sq.store (i := 0) (Lens.id (Vector T_api_Value 4)) (v := (y1 : Vector T_api_Value 4)) (b' := (y1 : Vector T_api_Value 4)) ty26 (look_t rfl) (look_t rfl) rfl rfl rfl ?_
  refine Sq.nil ?_
  refine To.next ?_
  refine Wp.seq ?_
  refine Wp.seq ?_
  obtain ⟨y2, hy2, h⟩ := bind_some h
  obtain ⟨y3, hy3, h⟩ := bind_some h
  refine Wp.draw mixed 9 [some 12, some 13, some 14, some 15, some 16, some 17, some 18, some 19, some 20] [[], [0], [], [2], [1, 3], [], [4, 5], [], [6, 7]] [.val (VP.eq (.pointer (some ⟨p1, 0 + 0, none⟩))), .val (VP.of (x0.f_Value)), .val (VP.eq (.pointer (some ⟨p2, 0 + 0, none⟩))), .val (VP.of (x1.f_Value)), .val (VP.of (y2)), .val (VP.of (y1)), .val (VP.of (y3)), .val (VP.of (default : Vector T_api_Value 4)), .val (VP.of (!decide (y3 = (default : Vector T_api_Value 4))))] [false, false, false, false, false, false, false, false, false] (by kernel_rfl) rfl rfl rfl (fun ps1 => ⟨fun L' hL => HO.v (r_fa fd28_0 (look_t rfl)) rfl, fun L' hL => HO.v (r_load (i := 3) ((Lens.id T_cube_Cube).comp le_T_cube_Cube_Value) (r := x0.f_Value) ty26 (look_t rfl) (hL _ _ rfl rfl) rfl rfl) rfl, fun L' hL => HO.v (r_fa fd28_0 (look_t rfl)) rfl, fun L' hL => HO.v (r_load (i := 2) ((Lens.id T_cube_Cube).comp le_T_cube_Cube_Value) (r := x1.f_Value) ty26 (look_t rfl) (hL _ _ rfl rfl) rfl rfl) rfl, fun L' hL => HO.v (r_call en52 (C_cube_combined hy2) ⟨look_t rfl, look_t rfl, look_fn2 en57 (fun _ _ _ => C_value_Xor), trivial⟩) rfl, fun L' hL => HO.v (r_load (i := 0) (Lens.id (Vector T_api_Value 4)) (r := y1) ty26 (look_t rfl) (hL _ _ rfl rfl) rfl rfl) rfl, fun L' hL => HO.v (r_call en52 (C_cube_combined hy3) ⟨look_t rfl, look_t rfl, look_fn2 en56 (fun _ _ _ => C_value_And), trivial⟩) rfl, fun L' hL => HO.v (r_buildA (b := (default : Vector T_api_Value 4)) (sz := 2) rfl Try.underlying26 (by kernel_rfl) zr26 (.nil)) rfl, fun L' hL => HO.v (r_neA eqv26 rfl eqg26 rfl (look_t rfl) (look_t rfl)) rfl, trivial⟩) fun ps1 => ?_
  refine Sq.nil ?_
  refine To.next ?_
  refine Wp.cond (look_t rfl) (fun hc => ?_) (fun hc => ?_)
  · replace h := cond_t hc h
    refine Wp.seq ?_
    refine Wp.reg ?_
    refine Sq.v (r_build (b := (default : T_cube_Cube)) rfl bu28 zr28 (.nil)) rfl rfl rfl ?_
    refine Sq.store (i := 1) (Lens.id T_cube_Cube) (v := ((default : T_cube_Cube) : T_cube_Cube)) (b' := ((default : T_cube_Cube) : T_cube_Cube)) ty28 (look_t rfl) (look_t rfl) rfl rfl rfl ?_
    refine Sq.v (r_asg (look_bool false)) rfl rfl rfl ?_
    refine Sq.nil ?_
    refine To.next ?_
    refine Wp.ret ?_
    refine To.ret ?_
    replace h := some_in h
    subst h
    exact To.end2 rfl (rv_c (i := 1) ty28 rfl rfl) (rv_t rfl)
  · replace h := cond_f hc h
    refine Wp.skip ?_
    refine To.next ?_
    refine Wp.seq ?_
    obtain ⟨y4, hy4, h⟩ := bind_some h
    obtain ⟨y5, hy5, h⟩ := bind_some h
    refine Wp.draw mixed 11 [some 22, some 23, some 24, some 25, some 26, some 27, some 28, some 29, some 30, some 31, some 32] [[], [0], [], [2], [1, 3], [], [5], [], [7], [6, 8], [4, 9]] [.val (VP.eq (.pointer (some ⟨p1, 0 + 0, none⟩))), .val (VP.of (x0.f_Value)), .val (VP.eq (.pointer (some ⟨p2, 0 + 0, none⟩))), .val (VP.of (x1.f_Value)), .val (VP.of (y4)), .val (VP.eq (.pointer (some ⟨p1, 0 + 8, none⟩))), .val (VP.of (x0.f_Mask)), .val (VP.eq (.pointer (some ⟨p2, 0 + 8, none⟩))), .val (VP.of (x1.f_Mask)), .val (VP.of (y5)), .val (VP.of ({ f_Value := y4, f_Mask := y5 : T_cube_Cube }))] [false, false, false, false, false, false, false, false, false, false, false] (by kernel_rfl) rfl rfl rfl (fun ps2 => ⟨fun L' hL => HO.v (r_fa fd28_0 (look_t rfl)) rfl, fun L' hL => HO.v (r_load (i := 3) ((Lens.id T_cube_Cube).comp le_T_cube_Cube_Value) (r := x0.f_Value) ty26 (look_t rfl) (hL _ _ rfl rfl) rfl rfl) rfl, fun L' hL => HO.v (r_fa fd28_0 (look_t rfl)) rfl, fun L' hL => HO.v (r_load (i := 2) ((Lens.id T_cube_Cube).comp le_T_cube_Cube_Value) (r := x1.f_Value) ty26 (look_t rfl) (hL _ _ rfl rfl) rfl rfl) rfl, fun L' hL => HO.v (r_call en52 (C_cube_combined hy4) ⟨look_t rfl, look_t rfl, look_fn2 en58 (fun _ _ _ => C_value_Or), trivial⟩) rfl, fun L' hL => HO.v (r_fa fd28_1 (look_t rfl)) rfl, fun L' hL => HO.v (r_load (i := 3) ((Lens.id T_cube_Cube).comp le_T_cube_Cube_Mask) (r := x0.f_Mask) ty26 (look_t rfl) (hL _ _ rfl rfl) rfl rfl) rfl, fun L' hL => HO.v (r_fa fd28_1 (look_t rfl)) rfl, fun L' hL => HO.v (r_load (i := 2) ((Lens.id T_cube_Cube).comp le_T_cube_Cube_Mask) (r := x1.f_Mask) ty26 (look_t rfl) (hL _ _ rfl rfl) rfl rfl) rfl, fun L' hL => HO.v (r_call en52 (C_cube_combined hy5) ⟨look_t rfl, look_t rfl, look_fn2 en58 (fun _ _ _ => C_value_Or), trivial⟩) rfl, fun L' hL => HO.v (r_build (b := { f_Value := y4, f_Mask := y5 : T_cube_Cube }) rfl bu28 zr28 (.cons le_T_cube_Cube_Value rfl (look_t rfl) rfl (.cons le_T_cube_Cube_Mask rfl (look_t rfl) rfl (.nil)))) rfl, trivial⟩) fun ps2 => ?_
    refine Sq.store (i := 1) (Lens.id T_cube_Cube) (v := ({ f_Value := y4, f_Mask := y5 : T_cube_Cube } : T_cube_Cube)) (b' := ({ f_Value := y4, f_Mask := y5 : T_cube_Cube } : T_cube_Cube)) ty28 (look_t rfl) (look_t rfl) rfl rfl rfl ?_
    refine Sq.v (r_asg (look_bool true)) rfl rfl rfl ?_
    refine Sq.nil ?_
    refine To.next ?_
    refine Wp.ret ?_
    replace h := some_in h
    subst h
    exact To.end2 rfl (rv_c (i := 1) ty28 rfl rfl) (rv_t rfl)
set_option maxHeartbeats 2000000 in
theorem C_value_Bit {x0 : T_api_Value} {x1 : Int}  {r : Bool} (h : L_value_Bit x0 x1 = some r) : Meets Try.prog 90 [VP.of (x0), VP.of (x1)] (VP.of (r)) := by
  unfold L_value_Bit at h
  refine Meets.of Try.func90 rfl Try.ntmps90 rfl fun W A => ?_
  refine Wp.seq ?_
  refine Wp.reg ?_
  refine Sq.box (z := (x0 : T_api_Value)) (look_t rfl) rfl fun p1 => ?_
  refine Sq.v (r_asg (look_bool false)) rfl rfl rfl ?_
  refine Sq.nil ?_
  refine To.next ?_
  refine Wp.seq ?_
  refine Wp.reg ?_
  refine Sq.v (r_move (look_t rfl)) rfl rfl rfl ?_
  refine Sq.v (r_geq (look_t rfl) (look_int 0)) rfl rfl rfl ?_
  refine Sq.v (r_move (look_t rfl)) rfl rfl rfl ?_
  refine Sq.g (fun hb => r_move (look_t rfl)) rfl rfl rfl rfl rfl ?_
  refine Sq.g (fun hb => r_lss (look_tc rfl hb) (look_int 128)) rfl rfl rfl rfl rfl ?_
  refine Sq.v (r_and (look_t rfl) (look_t rfl) (fun h => h)) rfl rfl rfl ?_
  refine Sq.v (r_move (look_t rfl)) rfl rfl rfl ?_
  refine Sq.g (fun hb => r_load (i := 0) (Lens.id T_api_Value) (r := x0) ty24 (look_t rfl) rfl rfl rfl) rfl rfl rfl rfl rfl ?_
  refine Sq.g (fun hb => r_move (look_t rfl)) rfl rfl rfl rfl rfl ?_
  obtain ⟨y1, hy1, h⟩ := bind_some h
  refine Sq.g (fun hb => r_call en112 (C_value_Right (condM_some hy1 hb)) ⟨look_tc rfl hb, look_tc rfl hb, trivial⟩) rfl rfl rfl rfl rfl ?_
  refine Sq.g (fun hb => r_field le_T_api_Value_Lo fv24_1 ty22 rfl (look_tc rfl hb) rfl rfl) rfl rfl rfl rfl rfl ?_
  refine Sq.g (fun hb => r_and64 (look_tc rfl hb) (look_u64 1 rfl)) rfl rfl rfl rfl rfl ?_
  refine Sq.g (fun hb => r_eql64 (look_tc rfl hb) (look_u64 1 rfl)) rfl rfl rfl rfl rfl ?_
  obtain ⟨z1, hz1, h⟩ := bind_some h
  refine Sq.v ((r_and (look_t rfl) (look_t rfl) (fun h => h)).as (some_in hz1)) rfl rfl rfl ?_
  refine Sq.v (r_asg (look_t rfl)) rfl rfl rfl ?_
  refine Sq.nil ?_
  refine To.next ?_
  refine Wp.ret ?_
  replace h := some_in h
  subst h
  exact To.end1 rfl (rv_t rfl)
set_option maxHeartbeats 2000000 in
theorem C_cube_Free {x0 : T_cube_Cube}  {r : Int} (h : L_cube_Free x0 = some r) : Meets Try.prog 30 [VP.of (x0)] (VP.of (r)) := by
  unfold L_cube_Free at h
  refine Meets.of Try.func30 rfl Try.ntmps30 rfl fun W A => ?_
  refine Wp.seq ?_
  refine Wp.reg ?_
  refine Sq.box (z := (x0 : T_cube_Cube)) (look_t rfl) rfl fun p1 => ?_
  refine Sq.v (r_asg (look_int 0)) rfl rfl rfl ?_
  refine Sq.nil ?_
  refine To.next ?_
  refine Wp.seq ?_
  refine Wp.reg ?_
  refine Sq.v (r_asg (look_int 512)) rfl rfl rfl ?_
  refine Sq.nil ?_
  refine To.next ?_
  refine Wp.seq ?_
  refine Wp.seq ?_
  refine Wp.reg ?_
  refine Sq.v (r_fa fd28_1 (look_t rfl)) rfl rfl rfl ?_
  refine Sq.v (r_load (i := 0) ((Lens.id T_cube_Cube).comp le_T_cube_Cube_Mask) (r := x0.f_Mask) ty26 (look_t rfl) rfl rfl rfl) rfl rfl rfl ?_
  refine Sq.v (r_move (look_int 0)) rfl rfl rfl ?_
  refine Sq.nil ?_
  refine To.next ?_
  refine Wp.block ?_
  obtain ⟨e1, hl, h⟩ := bind_some h
  refine Wp.loopG (σ := Int × Int) (ε := (Int × Int × Bool)) (γ := Unit) (δ := Unit) hl (fun s1 g1 => [(0, VP.of (x0)), (1, VP.eq (.pointer (some ⟨p1, 0, none⟩))), (2, VP.of (0 : Int)), (3, VP.of (s1.1)), (7, VP.of (x0.f_Mask)), (8, VP.of (s1.2))]) (fun s1 g1 => [⟨some p1, .var (x0 : T_cube_Cube)⟩]) (fun q1 => Exit.exit 0) (fun q1 g1 => [(0, VP.of (x0)), (1, VP.eq (.pointer (some ⟨p1, 0, none⟩))), (2, VP.of (0 : Int)), (3, VP.of (q1.1)), (7, VP.of (x0.f_Mask)), (8, VP.of (q1.2.1)), (9, VP.of (q1.2.2))]) (fun q1 g1 => [⟨some p1, .var (x0 : T_cube_Cube)⟩]) () rfl (.same rfl (.same rfl (.same rfl (.same rfl (.same rfl (.same rfl .nil)))))) (fun s1 r h g1 => ?_) (fun g1 => ?_)
  · clear hl
    refine Wp.seq ?_
    refine Wp.reg ?_
    refine Sq.v (r_lss (look_t rfl) (look_int 4)) rfl rfl rfl ?_
    refine Sq.nil ?_
    refine To.next ?_
    refine Wp.seq ?_
    refine Wp.cond (look_t rfl) (fun hc => ?_) (fun hc => ?_)
    · replace h := cond_t hc h
      refine Wp.skip ?_
      refine To.next ?_
      refine Wp.seq ?_
      refine Wp.block ?_
      refine Wp.seq ?_
      refine Wp.reg ?_
      obtain ⟨k1, hk1, h⟩ := bind_some h
      refine Sq.v (r_index (k := k1) Try.underlying26 ty24 (look_t rfl) (look_t rfl) (idx_some hk1)) rfl rfl rfl ?_
      refine Sq.alloc zr24 rfl fun p2 => ?_
      refine Sq.store (i := 0) (Lens.id T_api_Value) (v := (vget x0.f_Mask k1 : T_api_Value)) (b' := (vget x0.f_Mask k1 : T_api_Value)) ty24 (look_t rfl) (look_t rfl) rfl rfl rfl ?_
      refine Sq.nil ?_
      refine To.next ?_
      obtain ⟨y1, hy1, h⟩ := bind_some h
      obtain ⟨y2, hy2, h⟩ := bind_some h
      refine Wp.draw mixed 9 [some 11, some 12, some 13, some 14, some 15, some 16, some 17, some 18, some 19] [[], [], [1], [2], [], [4], [5], [3, 6], [0, 7]] [.val (VP.of (s1.1)), .val (VP.eq (.pointer (some ⟨p2, 0 + 0, none⟩))), .val (VP.of ((vget x0.f_Mask k1).f_Hi)), .val (VP.of (y1)), .val (VP.eq (.pointer (some ⟨p2, 0 + 1, none⟩))), .val (VP.of ((vget x0.f_Mask k1).f_Lo)), .val (VP.of (y2)), .val (VP.of (w64 (y1 + y2))), .val (VP.of (w64 (s1.1 - (w64 (y1 + y2)))))] [false, false, false, false, false, false, false, false, false] (by kernel_rfl) rfl rfl rfl (fun ps1 => ⟨fun L' hL => HO.v (r_move (look_t rfl)) rfl, fun L' hL => HO.v (r_fa fd24_0 (look_t rfl)) rfl, fun L' hL => HO.v (r_load (i := 0) ((Lens.id T_api_Value).comp le_T_api_Value_Hi) (r := (vget x0.f_Mask k1).f_Hi) ty22 (look_t rfl) (hL _ _ rfl rfl) rfl rfl) rfl, fun L' hL => HO.v (r_call en66 (C_math_bits_OnesCount64 hy1) ⟨look_t rfl, trivial⟩) rfl, fun L' hL => HO.v (r_fa fd24_1 (look_t rfl)) rfl, fun L' hL => HO.v (r_load (i := 0) ((Lens.id T_api_Value).comp le_T_api_Value_Lo) (r := (vget x0.f_Mask k1).f_Lo) ty22 (look_t rfl) (hL _ _ rfl rfl) rfl rfl) rfl, fun L' hL => HO.v (r_call en66 (C_math_bits_OnesCount64 hy2) ⟨look_t rfl, trivial⟩) rfl, fun L' hL => HO.v (r_add (look_t rfl) (look_t rfl)) rfl, fun L' hL => HO.v (r_sub (look_t rfl) (look_t rfl)) rfl, trivial⟩) fun ps1 => ?_
      refine Sq.v (r_asg (look_t rfl)) rfl rfl rfl ?_
      refine Sq.nil ?_
      refine To.bnorm ?_
      refine To.next ?_
      refine Wp.reg ?_
      refine Sq.v (r_add (look_t rfl) (look_int 1)) rfl rfl rfl ?_
      refine Sq.v (r_move (look_t rfl)) rfl rfl rfl ?_
      refine Sq.nil ?_
      replace h := some_in h
      subst h
      exact To.roundG () 1 rfl (.same rfl (.same rfl (.same rfl (.same rfl (.same rfl (.same rfl .nil))))))
    · replace h := cond_f hc h
      refine Wp.exit ?_
      refine To.exit ?_
      replace h := some_in h
      subst h
      exact To.leaveG () 0 rfl (by simp) rfl (.same rfl (.same rfl (.same rfl (.same rfl (.same rfl (.same rfl (.same rfl .nil)))))))
  · clear hl
    refine To.bexit ?_
    refine To.next ?_
    refine Wp.seq ?_
    refine Wp.reg ?_
    refine Sq.v (r_move (look_t rfl)) rfl rfl rfl ?_
    refine Sq.v (r_asg (look_t rfl)) rfl rfl rfl ?_
    refine Sq.nil ?_
    refine To.next ?_
    refine Wp.ret ?_
    replace h := some_in h
    subst h
    exact To.end1 rfl (rv_t rfl)
set_option maxHeartbeats 2000000 in
theorem C_mcase_Codes_Bool {x0 : T_mcase_Codes} {pp0 : Nat} {r : Bool × T_mcase_Codes} (h : L_mcase_Codes_Bool x0 = some r) : MeetsO Try.prog 77 [VP.eq (.pointer (some ⟨pp0, 0, none⟩))] [⟨some pp0, .var (x0 : T_mcase_Codes)⟩] (δ := Unit) (fun d => VP.of (r.1)) (fun d => [⟨some pp0, .var (r.2 : T_mcase_Codes)⟩]) := by
  unfold L_mcase_Codes_Bool at h
  refine MeetsO.of Try.func77 rfl Try.ntmps77 rfl fun W A => ?_
  refine Wp.seq ?_
  refine Wp.reg ?_
  refine Sq.v (r_asg (look_bool false)) rfl rfl rfl ?_
  refine Sq.nil ?_
  refine To.next ?_
  refine Wp.seq ?_
  refine Wp.reg ?_
  refine Sq.v (r_move (look_t rfl)) rfl rfl rfl ?_
  refine Sq.bring 0 rfl ?_
  obtain ⟨y1, hy1, h⟩ := bind_some h
  refine Sq.callO (Lin := [⟨some pp0, .var (x0 : T_mcase_Codes)⟩]) (Lr := []) en72 (C_mcase_Codes_Next hy1) ⟨look_t rfl, look_int 2, trivial⟩ rfl fun q1 => ?_
  refine Sq.v (r_eql (look_t rfl) (look_int 1)) rfl rfl rfl ?_
  refine Sq.v (r_asg (look_t rfl)) rfl rfl rfl ?_
  refine Sq.nil ?_
  refine To.next ?_
  refine Wp.ret ?_
  refine To.bring 0 rfl ?_
  replace h := some_in h
  subst h
  exact To.endO1 () (.cons_cons _ (List.nil_sublist _)) rfl rfl (rvo_t rfl)
end Go.Proofs.Ytabodolbdalimaa
