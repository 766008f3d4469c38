/-
  Printed by the decompiler (dec.py) out of the seat's translation. Each function meets its functional program. Conditions: none.
-/
import Derived.Test.YtabodolbdalimaaDc3
namespace Go.Proofs.Ytabodolbdalimaa
open Go Gv
set_option linter.unusedVariables false
set_option linter.unusedSimpArgs false
set_option maxRecDepth 100000
set_option maxHeartbeats 2000000 in
theorem C_ref25_Within {x0 : Vector (BitVec 8) 512} {x1 : Vector (BitVec 8) 512} {r : Bool} (h : L_ref25_Within x0 x1 = some r) : Meets Try.prog 28 [VP.of (x0), VP.of (x1)] (VP.of (r)) := by
  unfold L_ref25_Within at h
  refine Meets.of Try.func28 rfl Try.ntmps28 rfl fun W A => ?_
  refine Wp.seq ?_
  refine Wp.reg ?_
  refine Sq.box (z := (x0 : Vector (BitVec 8) 512)) (look_t rfl) rfl fun p1 => ?_
  refine Sq.box (z := (x1 : Vector (BitVec 8) 512)) (look_t rfl) rfl fun p2 => ?_
  refine Sq.v (r_asg (look_bool false)) rfl rfl rfl ?_
  refine Sq.nil ?_
  refine To.next ?_
  refine Wp.seq ?_
  refine Wp.seq ?_
  refine Wp.reg ?_
  refine Sq.v (r_move (look_int 0)) rfl rfl rfl ?_
  refine Sq.nil ?_
  refine To.next ?_
  refine Wp.block ?_
  obtain ⟨e1, hl, h⟩ := bind_some h
  refine Wp.loopG (σ := Int) (ε := (Int × Bool) ⊕ (Int × Int × Bool × Bool)) (γ := Unit) (δ := Unit) hl (fun s1 g1 => [(0, VP.of (x0)), (1, VP.of (x1)), (2, VP.eq (.pointer (some ⟨p1, 0, none⟩))), (3, VP.eq (.pointer (some ⟨p2, 0, none⟩))), (4, VP.of (false)), (6, VP.of (s1))]) (fun s1 g1 => [⟨some p2, .var (x1 : Vector (BitVec 8) 512)⟩, ⟨some p1, .var (x0 : Vector (BitVec 8) 512)⟩]) (fun q1 => Sum.elim (fun q1 => Exit.exit 0) (fun q1 => Exit.ret) q1) (fun q1 g1 => Sum.elim (fun q1 => [(0, VP.of (x0)), (1, VP.of (x1)), (2, VP.eq (.pointer (some ⟨p1, 0, none⟩))), (3, VP.eq (.pointer (some ⟨p2, 0, none⟩))), (4, VP.of (false)), (6, VP.of (q1.1)), (7, VP.of (q1.2))]) (fun q1 => [(0, VP.of (x0)), (1, VP.of (x1)), (2, VP.eq (.pointer (some ⟨p1, 0, none⟩))), (3, VP.eq (.pointer (some ⟨p2, 0, none⟩))), (4, VP.of (false)), (5, VP.of (q1.1)), (6, VP.of (q1.2.1)), (7, VP.of (q1.2.2.1)), (21, VP.of (q1.2.2.2))]) q1) (fun q1 g1 => Sum.elim (fun q1 => [⟨some p2, .var (x1 : Vector (BitVec 8) 512)⟩, ⟨some p1, .var (x0 : Vector (BitVec 8) 512)⟩]) (fun q1 => [⟨some p2, .var (x1 : Vector (BitVec 8) 512)⟩, ⟨some p1, .var (x0 : Vector (BitVec 8) 512)⟩]) q1) () rfl (.same rfl (.same rfl (.same rfl (.same rfl (.same rfl (.same rfl .nil)))))) (fun s1 r h g1 => ?_) (fun g1 => ?_)
  · clear hl
    refine Wp.seq ?_
    refine Wp.reg ?_
    refine Sq.v (r_lss (look_t rfl) (look_int 512)) rfl rfl rfl ?_
    refine Sq.nil ?_
    refine To.next ?_
    refine Wp.seq ?_
    refine Wp.cond (look_t rfl) (fun hc => ?_) (fun hc => ?_)
    · replace h := cond_t hc h
      refine Wp.skip ?_
      refine To.next ?_
      refine Wp.seq ?_
      refine Wp.block ?_
      refine Wp.seq ?_
      refine Wp.reg ?_
      refine Sq.v (r_move (look_t rfl)) rfl rfl rfl ?_
      refine Sq.v (r_asg (look_t rfl)) rfl rfl rfl ?_
      refine Sq.nil ?_
      refine To.next ?_
      refine Wp.seq ?_
      obtain ⟨k1, hk1, h⟩ := bind_some h
      obtain ⟨k2, hk2, h⟩ := bind_some h
      obtain ⟨k3, hk3, h⟩ := bind_some h
      refine Wp.draw mixed 13 [some 9, some 10, some 11, some 12, some 13, some 14, some 15, some 16, some 17, some 18, some 19, some 20, some 21] [[], [0], [1], [2], [3], [4], [4, 5], [4, 6], [4], [4, 8], [4, 9], [4, 7, 10], [4, 11]] [.val (VP.of (s1)), .val (VP.eq (.pointer (some ⟨p2, 0 + k1 * 1, none⟩))), .val (VP.of (vget x1 k1)), .val (VP.of ((vget x1 k1) != (2#8))), .val (VP.of ((vget x1 k1) != (2#8))), .val (VP.cond (((vget x1 k1) != (2#8)) = true) (VP.of (s1))), .val (VP.cond (((vget x1 k1) != (2#8)) = true) (VP.eq (.pointer (some ⟨p1, 0 + k2 * 1, none⟩)))), .val (VP.cond (((vget x1 k1) != (2#8)) = true) (VP.of (vget x0 k2))), .val (VP.cond (((vget x1 k1) != (2#8)) = true) (VP.of (s1))), .val (VP.cond (((vget x1 k1) != (2#8)) = true) (VP.eq (.pointer (some ⟨p2, 0 + k3 * 1, none⟩)))), .val (VP.cond (((vget x1 k1) != (2#8)) = true) (VP.of (vget x1 k3))), .val (VP.cond (((vget x1 k1) != (2#8)) = true) (VP.of ((vget x0 k2) != (vget x1 k3)))), .val (VP.of (((vget x1 k1) != (2#8)) && ((vget x0 k2) != (vget x1 k3))))] [false, false, false, false, false, false, false, false, false, false, false, false, false] (by kernel_rfl) rfl rfl rfl (fun ps1 => ⟨fun L' hL => HO.v (r_move (look_t rfl)) rfl, fun L' hL => HO.v (r_ia (k := k1) ar36 (look_t rfl) (look_t rfl) (idx_some hk1)) rfl, fun L' hL => HO.v (r_load (i := 0) ((Lens.id (Vector (BitVec 8) 512)).comp (Lens.idx (α := BitVec 8) 512 k1 (idx_some hk1).1)) (r := vget x1 k1) ty5 (look_t rfl) (hL _ _ rfl rfl) rfl rfl) rfl, fun L' hL => HO.v (r_neq8 (look_t rfl) (look_u8 2 rfl)) rfl, fun L' hL => HO.v (r_move (look_t rfl)) rfl, fun L' hL => HO.g (fun hb => r_move (look_t rfl)) rfl rfl rfl, fun L' hL => HO.g (fun hb => r_ia (k := k2) ar36 (look_t rfl) (look_tc rfl hb) (idx_some (condM_some hk2 hb))) rfl rfl rfl, fun L' hL => HO.g (fun hb => r_load (i := 1) ((Lens.id (Vector (BitVec 8) 512)).comp (Lens.idx (α := BitVec 8) 512 k2 (idx_some (condM_some hk2 hb)).1)) (r := vget x0 k2) ty5 (look_tc rfl hb) (hL _ _ rfl rfl) rfl rfl) rfl rfl rfl, fun L' hL => HO.g (fun hb => r_move (look_t rfl)) rfl rfl rfl, fun L' hL => HO.g (fun hb => r_ia (k := k3) ar36 (look_t rfl) (look_tc rfl hb) (idx_some (condM_some hk3 hb))) rfl rfl rfl, fun L' hL => HO.g (fun hb => r_load (i := 0) ((Lens.id (Vector (BitVec 8) 512)).comp (Lens.idx (α := BitVec 8) 512 k3 (idx_some (condM_some hk3 hb)).1)) (r := vget x1 k3) ty5 (look_tc rfl hb) (hL _ _ rfl rfl) rfl rfl) rfl rfl rfl, fun L' hL => HO.g (fun hb => r_neq8 (look_tc rfl hb) (look_tc rfl hb)) rfl rfl rfl, fun L' hL => HO.v (r_and (look_t rfl) (look_t rfl) (fun h => h)) rfl, trivial⟩) fun ps1 => ?_
      refine Sq.nil ?_
      refine To.next ?_
      refine Wp.cond (look_t rfl) (fun hc => ?_) (fun hc => ?_)
      · replace h := cond_t hc h
        refine Wp.seq ?_
        refine Wp.reg ?_
        refine Sq.v (r_asg (look_bool false)) rfl rfl rfl ?_
        refine Sq.nil ?_
        refine To.next ?_
        refine Wp.ret ?_
        refine To.bret ?_
        refine To.ret ?_
        replace h := some_in h
        subst h
        exact To.leaveG () 0 rfl (by simp) rfl (.same rfl (.same rfl (.same rfl (.same rfl (.same rfl (.same rfl (.same rfl (.same rfl (.same rfl .nil)))))))))
      · replace h := cond_f hc h
        refine Wp.skip ?_
        refine To.bnorm ?_
        refine To.next ?_
        refine Wp.reg ?_
        refine Sq.v (r_add (look_t rfl) (look_int 1)) rfl rfl rfl ?_
        refine Sq.v (r_move (look_t rfl)) rfl rfl rfl ?_
        refine Sq.nil ?_
        replace h := some_in h
        subst h
        exact To.roundG () 0 rfl (.same rfl (.same rfl (.same rfl (.same rfl (.same rfl (.same rfl .nil))))))
    · replace h := cond_f hc h
      refine Wp.exit ?_
      refine To.exit ?_
      replace h := some_in h
      subst h
      exact To.leaveG () 0 rfl (by simp) rfl (.same rfl (.same rfl (.same rfl (.same rfl (.same rfl (.same rfl (.same rfl .nil)))))))
  · clear hl
    rcases e1 with e1 | e1
    · simp only [Sum.elim_inl] at h
      refine To.bexit ?_
      refine To.next ?_
      refine Wp.seq ?_
      refine Wp.reg ?_
      refine Sq.v (r_asg (look_bool true)) rfl rfl rfl ?_
      refine Sq.nil ?_
      refine To.next ?_
      refine Wp.ret ?_
      replace h := some_in h
      subst h
      exact To.end1 rfl (rv_t rfl)
    · simp only [Sum.elim_inr] at h
      refine To.bret ?_
      refine To.ret ?_
      replace h := some_in h
      subst h
      exact To.end1 rfl (rv_t rfl)
set_option maxHeartbeats 2000000 in
theorem C_ref01_Ones {x0 : Int} {r : T_api_Value} (h : L_ref01_Ones x0 = some r) : Meets Try.prog 65 [VP.of (x0)] (VP.of (r)) := by
  unfold L_ref01_Ones at h
  refine Meets.of Try.func65 rfl Try.ntmps65 rfl fun W A => ?_
  refine Wp.seq ?_
  refine Wp.reg ?_
  refine Sq.alloc zr24 rfl fun p1 => ?_
  refine Sq.nil ?_
  refine To.next ?_
  refine Wp.seq ?_
  refine Wp.reg ?_
  refine Sq.alloc zr111 rfl fun p2 => ?_
  refine Sq.nil ?_
  refine To.next ?_
  refine Wp.seq ?_
  refine Wp.seq ?_
  refine Wp.reg ?_
  refine Sq.v (r_asg (look_int 0)) rfl rfl rfl ?_
  refine Sq.nil ?_
  refine To.next ?_
  refine Wp.block ?_
  obtain ⟨e1, hl, h⟩ := bind_some h
  refine Wp.loopG (σ := Int × (Vector Bool 128)) (ε := (Int × Bool × (Vector Bool 128))) (γ := Unit) (δ := Unit) hl (fun s1 g1 => [(0, VP.of (x0)), (2, VP.eq (.pointer (some ⟨p1, 0, none⟩))), (3, VP.eq (.pointer (some ⟨p2, 0, none⟩))), (4, VP.of (s1.1))]) (fun s1 g1 => [⟨some p2, .var (s1.2 : Vector Bool 128)⟩, ⟨some p1, .var ((default : T_api_Value) : T_api_Value)⟩]) (fun q1 => Exit.exit 0) (fun q1 g1 => [(0, VP.of (x0)), (2, VP.eq (.pointer (some ⟨p1, 0, none⟩))), (3, VP.eq (.pointer (some ⟨p2, 0, none⟩))), (4, VP.of (q1.1)), (8, VP.of (q1.2.1))]) (fun q1 g1 => [⟨some p2, .var (q1.2.2 : Vector Bool 128)⟩, ⟨some p1, .var ((default : T_api_Value) : T_api_Value)⟩]) () rfl (.same rfl (.same rfl (.same rfl (.same rfl .nil)))) (fun s1 r h g1 => ?_) (fun g1 => ?_)
  · clear hl
    refine Wp.seq ?_
    refine Wp.seq ?_
    refine Wp.reg ?_
    refine Sq.v (r_move (look_t rfl)) rfl rfl rfl ?_
    refine Sq.v (r_move (look_t rfl)) rfl rfl rfl ?_
    obtain ⟨y1, hy1, h⟩ := bind_some h
    refine Sq.v (r_call en64 (C_ref01_clamp hy1) ⟨look_t rfl, trivial⟩) rfl rfl rfl ?_
    refine Sq.v (r_lss (look_t rfl) (look_t rfl)) rfl rfl rfl ?_
    refine Sq.nil ?_
    refine To.next ?_
    refine Wp.cond (look_t rfl) (fun hc => ?_) (fun hc => ?_)
    · replace h := cond_t hc h
      refine Wp.skip ?_
      refine To.next ?_
      refine Wp.seq ?_
      refine Wp.block ?_
      refine Wp.reg ?_
      refine Sq.v (r_move (look_t rfl)) rfl rfl rfl ?_
      obtain ⟨k1, hk1, h⟩ := bind_some h
      refine Sq.v (r_ia (k := k1) ar111 (look_t rfl) (look_t rfl) (idx_some hk1)) rfl rfl rfl ?_
      refine Sq.store (i := 0) ((Lens.id (Vector Bool 128)).comp (Lens.idx (α := Bool) 128 k1 (idx_some hk1).1)) (v := (true : Bool)) (b' := (vset s1.2 k1 true : Vector Bool 128)) ty4 (look_t rfl) (look_bool true) rfl rfl rfl ?_
      refine Sq.nil ?_
      refine To.bnorm ?_
      refine To.next ?_
      refine Wp.reg ?_
      refine Sq.v (r_move (look_t rfl)) rfl rfl rfl ?_
      refine Sq.v (r_add (look_t rfl) (look_int 1)) rfl rfl rfl ?_
      refine Sq.v (r_asg (look_t rfl)) rfl rfl rfl ?_
      refine Sq.nil ?_
      replace h := some_in h
      subst h
      exact To.roundG () 0 rfl (.same rfl (.same rfl (.same rfl (.same rfl .nil))))
    · replace h := cond_f hc h
      refine Wp.exit ?_
      refine To.exit ?_
      replace h := some_in h
      subst h
      exact To.leaveG () 0 rfl (by simp) rfl (.same rfl (.same rfl (.same rfl (.same rfl (.same rfl .nil)))))
  · clear hl
    refine To.bexit ?_
    refine To.next ?_
    refine Wp.seq ?_
    refine Wp.reg ?_
    refine Sq.v (r_load (i := 0) (Lens.id (Vector Bool 128)) (r := e1.2.2) ty111 (look_t rfl) rfl rfl rfl) rfl rfl rfl ?_
    obtain ⟨y2, hy2, h⟩ := bind_some h
    refine Sq.v (r_call en63 (C_ref01_Make hy2) ⟨look_t rfl, trivial⟩) rfl rfl rfl ?_
    refine Sq.store (i := 1) (Lens.id T_api_Value) (v := (y2 : T_api_Value)) (b' := (y2 : T_api_Value)) ty24 (look_t rfl) (look_t rfl) rfl rfl rfl ?_
    refine Sq.nil ?_
    refine To.next ?_
    refine Wp.ret ?_
    replace h := some_in h
    subst h
    exact To.end1 rfl (rv_c (i := 1) ty24 rfl rfl)
set_option maxHeartbeats 2000000 in
theorem C_ref25_Contains {x0 : Vector (BitVec 8) 512} {x1 : Vector T_api_Value 4} {r : Bool} (h : L_ref25_Contains x0 x1 = some r) : Meets Try.prog 29 [VP.of (x0), VP.of (x1)] (VP.of (r)) := by
  unfold L_ref25_Contains at h
  refine Meets.of Try.func29 rfl Try.ntmps29 rfl fun W A => ?_
  refine Wp.seq ?_
  refine Wp.reg ?_
  refine Sq.box (z := (x0 : Vector (BitVec 8) 512)) (look_t rfl) rfl fun p1 => ?_
  refine Sq.box (z := (x1 : Vector T_api_Value 4)) (look_t rfl) rfl fun p2 => ?_
  refine Sq.v (r_asg (look_bool false)) rfl rfl rfl ?_
  refine Sq.nil ?_
  refine To.next ?_
  refine Wp.seq ?_
  obtain ⟨y1, hy1, h⟩ := bind_some h
  obtain ⟨y2, hy2, h⟩ := bind_some h
  obtain ⟨y3, hy3, h⟩ := bind_some h
  obtain ⟨y4, hy4, h⟩ := bind_some h
  obtain ⟨z1, hz1, h⟩ := bind_some h
  obtain ⟨y5, hy5, h⟩ := bind_some h
  refine Wp.draw mixed 8 [some 7, some 8, some 9, some 10, some 11, some 12, some 13, some 5] [[], [], [], [], [], [1, 2, 3, 4], [0, 5], []] [.val (VP.of (x1)), .val (VP.of (y1)), .val (VP.of (y2)), .val (VP.of (y3)), .val (VP.of (y4)), .val (VP.of (z1)), .val (VP.of (y5)), .new (.var (default : Vector (BitVec 8) 512))] [false, false, false, false, false, false, false, false] (by kernel_rfl) rfl rfl rfl (fun ps1 => ⟨fun L' hL => HO.v (r_load (i := 0) (Lens.id (Vector T_api_Value 4)) (r := x1) ty26 (look_t rfl) (hL _ _ rfl rfl) rfl rfl) rfl, fun L' hL => HO.v (r_call en65 (C_ref01_Ones hy1) ⟨look_int 128, trivial⟩) rfl, fun L' hL => HO.v (r_call en65 (C_ref01_Ones hy2) ⟨look_int 128, trivial⟩) rfl, fun L' hL => HO.v (r_call en65 (C_ref01_Ones hy3) ⟨look_int 128, trivial⟩) rfl, fun L' hL => HO.v (r_call en65 (C_ref01_Ones hy4) ⟨look_int 128, trivial⟩) rfl, fun L' hL => HO.v ((r_buildA (b := vset (vset (vset (vset (default : Vector T_api_Value 4) 0 y1) 1 y2) 2 y3) 3 y4) (sz := 2) rfl Try.underlying26 (by kernel_rfl) zr26 (.cons (Lens.idx 4 0 (by decide)) rfl (look_t rfl) rfl (.cons (Lens.idx 4 1 (by decide)) rfl (look_t rfl) rfl (.cons (Lens.idx 4 2 (by decide)) rfl (look_t rfl) rfl (.cons (Lens.idx 4 3 (by decide)) rfl (look_t rfl) rfl (.nil)))))).as (some_in hz1)) rfl, fun L' hL => HO.v (r_call en55 (C_ref25_Read hy5) ⟨look_t rfl, look_t rfl, trivial⟩) rfl, ao_alloc zr36, trivial⟩) fun ps1 => ?_
  refine Sq.store (i := 0) (Lens.id (Vector (BitVec 8) 512)) (v := (y5 : Vector (BitVec 8) 512)) (b' := (y5 : Vector (BitVec 8) 512)) ty36 (look_t rfl) (look_t rfl) rfl rfl rfl ?_
  refine Sq.nil ?_
  refine To.next ?_
  refine Wp.seq ?_
  refine Wp.seq ?_
  refine Wp.reg ?_
  refine Sq.v (r_move (look_int 0)) rfl rfl rfl ?_
  refine Sq.nil ?_
  refine To.next ?_
  refine Wp.block ?_
  obtain ⟨e1, hl, h⟩ := bind_some h
  refine Wp.loopG (σ := Int) (ε := (Int × Bool) ⊕ (Int × Int × Bool × Bool)) (γ := Unit) (δ := Unit) hl (fun s1 g1 => [(0, VP.of (x0)), (1, VP.of (x1)), (2, VP.eq (.pointer (some ⟨p1, 0, none⟩))), (3, VP.eq (.pointer (some ⟨p2, 0, none⟩))), (4, VP.of (false)), (5, VP.eq (.pointer (some ⟨(ps1 7), 0, none⟩))), (14, VP.of (s1))]) (fun s1 g1 => [⟨some (ps1 7), .var (y5 : Vector (BitVec 8) 512)⟩, ⟨some p2, .var (x1 : Vector T_api_Value 4)⟩, ⟨some p1, .var (x0 : Vector (BitVec 8) 512)⟩]) (fun q1 => Sum.elim (fun q1 => Exit.exit 0) (fun q1 => Exit.ret) q1) (fun q1 g1 => Sum.elim (fun q1 => [(0, VP.of (x0)), (1, VP.of (x1)), (2, VP.eq (.pointer (some ⟨p1, 0, none⟩))), (3, VP.eq (.pointer (some ⟨p2, 0, none⟩))), (4, VP.of (false)), (5, VP.eq (.pointer (some ⟨(ps1 7), 0, none⟩))), (14, VP.of (q1.1)), (15, VP.of (q1.2))]) (fun q1 => [(0, VP.of (x0)), (1, VP.of (x1)), (2, VP.eq (.pointer (some ⟨p1, 0, none⟩))), (3, VP.eq (.pointer (some ⟨p2, 0, none⟩))), (4, VP.of (false)), (5, VP.eq (.pointer (some ⟨(ps1 7), 0, none⟩))), (6, VP.of (q1.1)), (14, VP.of (q1.2.1)), (15, VP.of (q1.2.2.1)), (29, VP.of (q1.2.2.2))]) q1) (fun q1 g1 => Sum.elim (fun q1 => [⟨some (ps1 7), .var (y5 : Vector (BitVec 8) 512)⟩, ⟨some p2, .var (x1 : Vector T_api_Value 4)⟩, ⟨some p1, .var (x0 : Vector (BitVec 8) 512)⟩]) (fun q1 => [⟨some (ps1 7), .var (y5 : Vector (BitVec 8) 512)⟩, ⟨some p2, .var (x1 : Vector T_api_Value 4)⟩, ⟨some p1, .var (x0 : Vector (BitVec 8) 512)⟩]) q1) () rfl (.same rfl (.same rfl (.same rfl (.same rfl (.same rfl (.same rfl (.same rfl .nil))))))) (fun s1 r h g1 => ?_) (fun g1 => ?_)
  · clear hl
    refine Wp.seq ?_
    refine Wp.reg ?_
    refine Sq.v (r_lss (look_t rfl) (look_int 512)) rfl rfl rfl ?_
    refine Sq.nil ?_
    refine To.next ?_
    refine Wp.seq ?_
    refine Wp.cond (look_t rfl) (fun hc => ?_) (fun hc => ?_)
    · replace h := cond_t hc h
      refine Wp.skip ?_
      refine To.next ?_
      refine Wp.seq ?_
      refine Wp.block ?_
      refine Wp.seq ?_
      refine Wp.reg ?_
      refine Sq.v (r_move (look_t rfl)) rfl rfl rfl ?_
      refine Sq.v (r_asg (look_t rfl)) rfl rfl rfl ?_
      refine Sq.nil ?_
      refine To.next ?_
      refine Wp.seq ?_
      obtain ⟨k1, hk1, h⟩ := bind_some h
      obtain ⟨k2, hk2, h⟩ := bind_some h
      obtain ⟨k3, hk3, h⟩ := bind_some h
      refine Wp.draw mixed 13 [some 17, some 18, some 19, some 20, some 21, some 22, some 23, some 24, some 25, some 26, some 27, some 28, some 29] [[], [0], [1], [2], [3], [4], [4, 5], [4, 6], [4], [4, 8], [4, 9], [4, 7, 10], [4, 11]] [.val (VP.of (s1)), .val (VP.eq (.pointer (some ⟨p1, 0 + k1 * 1, none⟩))), .val (VP.of (vget x0 k1)), .val (VP.of ((vget x0 k1) != (2#8))), .val (VP.of ((vget x0 k1) != (2#8))), .val (VP.cond (((vget x0 k1) != (2#8)) = true) (VP.of (s1))), .val (VP.cond (((vget x0 k1) != (2#8)) = true) (VP.eq (.pointer (some ⟨p1, 0 + k2 * 1, none⟩)))), .val (VP.cond (((vget x0 k1) != (2#8)) = true) (VP.of (vget x0 k2))), .val (VP.cond (((vget x0 k1) != (2#8)) = true) (VP.of (s1))), .val (VP.cond (((vget x0 k1) != (2#8)) = true) (VP.eq (.pointer (some ⟨(ps1 7), 0 + k3 * 1, none⟩)))), .val (VP.cond (((vget x0 k1) != (2#8)) = true) (VP.of (vget y5 k3))), .val (VP.cond (((vget x0 k1) != (2#8)) = true) (VP.of ((vget x0 k2) != (vget y5 k3)))), .val (VP.of (((vget x0 k1) != (2#8)) && ((vget x0 k2) != (vget y5 k3))))] [false, false, false, false, false, false, false, false, false, false, false, false, false] (by kernel_rfl) rfl rfl rfl (fun ps2 => ⟨fun L' hL => HO.v (r_move (look_t rfl)) rfl, fun L' hL => HO.v (r_ia (k := k1) ar36 (look_t rfl) (look_t rfl) (idx_some hk1)) rfl, fun L' hL => HO.v (r_load (i := 2) ((Lens.id (Vector (BitVec 8) 512)).comp (Lens.idx (α := BitVec 8) 512 k1 (idx_some hk1).1)) (r := vget x0 k1) ty5 (look_t rfl) (hL _ _ rfl rfl) rfl rfl) rfl, fun L' hL => HO.v (r_neq8 (look_t rfl) (look_u8 2 rfl)) rfl, fun L' hL => HO.v (r_move (look_t rfl)) rfl, fun L' hL => HO.g (fun hb => r_move (look_t rfl)) rfl rfl rfl, fun L' hL => HO.g (fun hb => r_ia (k := k2) ar36 (look_t rfl) (look_tc rfl hb) (idx_some (condM_some hk2 hb))) rfl rfl rfl, fun L' hL => HO.g (fun hb => r_load (i := 2) ((Lens.id (Vector (BitVec 8) 512)).comp (Lens.idx (α := BitVec 8) 512 k2 (idx_some (condM_some hk2 hb)).1)) (r := vget x0 k2) ty5 (look_tc rfl hb) (hL _ _ rfl rfl) rfl rfl) rfl rfl rfl, fun L' hL => HO.g (fun hb => r_move (look_t rfl)) rfl rfl rfl, fun L' hL => HO.g (fun hb => r_ia (k := k3) ar36 (look_t rfl) (look_tc rfl hb) (idx_some (condM_some hk3 hb))) rfl rfl rfl, fun L' hL => HO.g (fun hb => r_load (i := 0) ((Lens.id (Vector (BitVec 8) 512)).comp (Lens.idx (α := BitVec 8) 512 k3 (idx_some (condM_some hk3 hb)).1)) (r := vget y5 k3) ty5 (look_tc rfl hb) (hL _ _ rfl rfl) rfl rfl) rfl rfl rfl, fun L' hL => HO.g (fun hb => r_neq8 (look_tc rfl hb) (look_tc rfl hb)) rfl rfl rfl, fun L' hL => HO.v (r_and (look_t rfl) (look_t rfl) (fun h => h)) rfl, trivial⟩) fun ps2 => ?_
      refine Sq.nil ?_
      refine To.next ?_
      refine Wp.cond (look_t rfl) (fun hc => ?_) (fun hc => ?_)
      · replace h := cond_t hc h
        refine Wp.seq ?_
        refine Wp.reg ?_
        refine Sq.v (r_asg (look_bool false)) rfl rfl rfl ?_
        refine Sq.nil ?_
        refine To.next ?_
        refine Wp.ret ?_
        refine To.bret ?_
        refine To.ret ?_
        replace h := some_in h
        subst h
        exact To.leaveG () 0 rfl (by simp) rfl (.same rfl (.same rfl (.same rfl (.same rfl (.same rfl (.same rfl (.same rfl (.same rfl (.same rfl (.same rfl .nil))))))))))
      · replace h := cond_f hc h
        refine Wp.skip ?_
        refine To.bnorm ?_
        refine To.next ?_
        refine Wp.reg ?_
        refine Sq.v (r_add (look_t rfl) (look_int 1)) rfl rfl rfl ?_
        refine Sq.v (r_move (look_t rfl)) rfl rfl rfl ?_
        refine Sq.nil ?_
        replace h := some_in h
        subst h
        exact To.roundG () 0 rfl (.same rfl (.same rfl (.same rfl (.same rfl (.same rfl (.same rfl (.same rfl .nil)))))))
    · replace h := cond_f hc h
      refine Wp.exit ?_
      refine To.exit ?_
      replace h := some_in h
      subst h
      exact To.leaveG () 0 rfl (by simp) rfl (.same rfl (.same rfl (.same rfl (.same rfl (.same rfl (.same rfl (.same rfl (.same rfl .nil))))))))
  · clear hl
    rcases e1 with e1 | e1
    · simp only [Sum.elim_inl] at h
      refine To.bexit ?_
      refine To.next ?_
      refine Wp.seq ?_
      refine Wp.reg ?_
      refine Sq.v (r_asg (look_bool true)) rfl rfl rfl ?_
      refine Sq.nil ?_
      refine To.next ?_
      refine Wp.ret ?_
      replace h := some_in h
      subst h
      exact To.end1 rfl (rv_t rfl)
    · simp only [Sum.elim_inr] at h
      refine To.bret ?_
      refine To.ret ?_
      replace h := some_in h
      subst h
      exact To.end1 rfl (rv_t rfl)
set_option maxHeartbeats 2000000 in
theorem C_ref25_Free {x0 : Vector (BitVec 8) 512} {r : Int} (h : L_ref25_Free x0 = some r) : Meets Try.prog 31 [VP.of (x0)] (VP.of (r)) := by
  unfold L_ref25_Free at h
  refine Meets.of Try.func31 rfl Try.ntmps31 rfl fun W A => ?_
  refine Wp.seq ?_
  refine Wp.reg ?_
  refine Sq.box (z := (x0 : Vector (BitVec 8) 512)) (look_t rfl) rfl fun p1 => ?_
  refine Sq.v (r_asg (look_int 0)) rfl rfl rfl ?_
  refine Sq.nil ?_
  refine To.next ?_
  refine Wp.seq ?_
  refine Wp.reg ?_
  refine Sq.v (r_asg (look_int 0)) rfl rfl rfl ?_
  refine Sq.nil ?_
  refine To.next ?_
  refine Wp.seq ?_
  refine Wp.seq ?_
  refine Wp.reg ?_
  refine Sq.v (r_load (i := 0) (Lens.id (Vector (BitVec 8) 512)) (r := x0) ty36 (look_t rfl) rfl rfl rfl) rfl rfl rfl ?_
  refine Sq.v (r_move (look_int 0)) rfl rfl rfl ?_
  refine Sq.nil ?_
  refine To.next ?_
  refine Wp.block ?_
  obtain ⟨e1, hl, h⟩ := bind_some h
  refine Wp.loopG (σ := Int × Int) (ε := (Int × Int × Bool)) (γ := Unit) (δ := Unit) hl (fun s1 g1 => [(0, VP.of (x0)), (1, VP.eq (.pointer (some ⟨p1, 0, none⟩))), (2, VP.of (0 : Int)), (3, VP.of (s1.1)), (6, VP.of (x0)), (7, VP.of (s1.2))]) (fun s1 g1 => [⟨some p1, .var (x0 : Vector (BitVec 8) 512)⟩]) (fun q1 => Exit.exit 0) (fun q1 g1 => [(0, VP.of (x0)), (1, VP.eq (.pointer (some ⟨p1, 0, none⟩))), (2, VP.of (0 : Int)), (3, VP.of (q1.1)), (6, VP.of (x0)), (7, VP.of (q1.2.1)), (8, VP.of (q1.2.2))]) (fun q1 g1 => [⟨some p1, .var (x0 : Vector (BitVec 8) 512)⟩]) () rfl (.same rfl (.same rfl (.same rfl (.same rfl (.same rfl (.same rfl .nil)))))) (fun s1 r h g1 => ?_) (fun g1 => ?_)
  · clear hl
    refine Wp.seq ?_
    refine Wp.reg ?_
    refine Sq.v (r_lss (look_t rfl) (look_int 512)) rfl rfl rfl ?_
    refine Sq.nil ?_
    refine To.next ?_
    refine Wp.seq ?_
    refine Wp.cond (look_t rfl) (fun hc => ?_) (fun hc => ?_)
    · replace h := cond_t hc h
      refine Wp.skip ?_
      refine To.next ?_
      refine Wp.seq ?_
      refine Wp.block ?_
      refine Wp.seq ?_
      refine Wp.reg ?_
      obtain ⟨k1, hk1, h⟩ := bind_some h
      refine Sq.v (r_index (k := k1) Try.underlying36 ty5 (look_t rfl) (look_t rfl) (idx_some hk1)) rfl rfl rfl ?_
      refine Sq.v (r_asg (look_t rfl)) rfl rfl rfl ?_
      refine Sq.nil ?_
      refine To.next ?_
      refine Wp.seq ?_
      refine Wp.reg ?_
      refine Sq.v (r_move (look_t rfl)) rfl rfl rfl ?_
      refine Sq.v (r_eql8 (look_t rfl) (look_u8 2 rfl)) rfl rfl rfl ?_
      refine Sq.nil ?_
      refine To.next ?_
      obtain ⟨m1, hm1, h⟩ := bind_some h
      refine Wp.condM (γ := Unit) (fun g2 => [(0, VP.of (x0)), (1, VP.eq (.pointer (some ⟨p1, 0, none⟩))), (2, VP.of (0 : Int)), (3, VP.of (m1)), (5, VP.of (vget x0 k1)), (6, VP.of (x0)), (7, VP.of (s1.2)), (8, VP.of (decide (s1.2 < 512))), (11, VP.of ((vget x0 k1) == (2#8)))]) (fun g2 => [⟨some p1, .var (x0 : Vector (BitVec 8) 512)⟩]) (look_t rfl) (fun g2 => ?_) (fun hm hc => ?_) (fun hm hc => ?_)
      · clear hm1
        refine To.bnorm ?_
        refine To.next ?_
        refine Wp.reg ?_
        refine Sq.v (r_add (look_t rfl) (look_int 1)) rfl rfl rfl ?_
        refine Sq.v (r_move (look_t rfl)) rfl rfl rfl ?_
        refine Sq.nil ?_
        replace h := some_in h
        subst h
        exact To.roundG () 0 rfl (.same rfl (.same rfl (.same rfl (.same rfl (.same rfl (.same rfl .nil))))))
      · have h := cond_t hc hm1
        refine Wp.reg ?_
        refine Sq.v (r_move (look_t rfl)) rfl rfl rfl ?_
        refine Sq.v (r_add (look_t rfl) (look_int 1)) rfl rfl rfl ?_
        refine Sq.v (r_asg (look_t rfl)) rfl rfl rfl ?_
        refine Sq.nil ?_
        replace h := some_in h
        subst h
        exact To.meet 0 rfl (.same rfl (.same rfl (.same rfl (.same rfl (.same rfl (.same rfl (.same rfl (.same rfl (.same rfl .nil))))))))) (hm ())
      · have h := cond_f hc hm1
        refine Wp.skip ?_
        replace h := some_in h
        subst h
        exact To.meet 0 rfl (.same rfl (.same rfl (.same rfl (.same rfl (.same rfl (.same rfl (.same rfl (.same rfl (.same rfl .nil))))))))) (hm ())
    · replace h := cond_f hc h
      refine Wp.exit ?_
      refine To.exit ?_
      replace h := some_in h
      subst h
      exact To.leaveG () 0 rfl (by simp) rfl (.same rfl (.same rfl (.same rfl (.same rfl (.same rfl (.same rfl (.same rfl .nil)))))))
  · clear hl
    refine To.bexit ?_
    refine To.next ?_
    refine Wp.seq ?_
    refine Wp.reg ?_
    refine Sq.v (r_move (look_t rfl)) rfl rfl rfl ?_
    refine Sq.v (r_asg (look_t rfl)) rfl rfl rfl ?_
    refine Sq.nil ?_
    refine To.next ?_
    refine Wp.ret ?_
    replace h := some_in h
    subst h
    exact To.end1 rfl (rv_t rfl)
end Go.Proofs.Ytabodolbdalimaa
