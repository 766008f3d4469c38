/-
  Printed by the decompiler (dec.py) out of the seat's translation. Each function meets its functional program. Conditions: none.
-/
import Derived.Test.YtabodolbdalimaaDl
namespace Go.Proofs.Ytabodolbdalimaa
open Go Gv
set_option linter.unusedVariables false
set_option linter.unusedSimpArgs false
set_option maxRecDepth 100000
set_option maxHeartbeats 2000000 in
theorem C_math_bits_OnesCount64 {x0 : BitVec 64}  {r : Int} (h : L_math_bits_OnesCount64 x0 = some r) : Meets Try.prog 66 [VP.of (x0)] (VP.of (r)) := by
  unfold L_math_bits_OnesCount64 at h
  refine Meets.of Try.func66 rfl Try.ntmps66 rfl fun W A => ?_
  refine Wp.seq ?_
  refine Wp.reg ?_
  refine Sq.v (r_asg (look_int 0)) rfl rfl rfl ?_
  refine Sq.nil ?_
  refine To.next ?_
  refine Wp.seq ?_
  refine Wp.reg ?_
  refine Sq.v (r_move (look_t rfl)) rfl rfl rfl ?_
  refine Sq.v (r_shr64 (look_t rfl) (look_u64 1 rfl)) rfl rfl rfl ?_
  refine Sq.v (r_and64 (look_t rfl) (look_u64 6148914691236517205 rfl)) rfl rfl rfl ?_
  refine Sq.v (r_move (look_t rfl)) rfl rfl rfl ?_
  refine Sq.v (r_and64 (look_t rfl) (look_u64 6148914691236517205 rfl)) rfl rfl rfl ?_
  obtain ⟨z1, hz1, h⟩ := bind_some h
  refine Sq.v ((r_add64 (look_t rfl) (look_t rfl)).as (some_in hz1)) rfl rfl rfl ?_
  refine Sq.v (r_asg (look_t rfl)) rfl rfl rfl ?_
  refine Sq.nil ?_
  refine To.next ?_
  refine Wp.seq ?_
  refine Wp.reg ?_
  refine Sq.v (r_move (look_t rfl)) rfl rfl rfl ?_
  refine Sq.v (r_shr64 (look_t rfl) (look_u64 2 rfl)) rfl rfl rfl ?_
  refine Sq.v (r_and64 (look_t rfl) (look_u64 3689348814741910323 rfl)) rfl rfl rfl ?_
  refine Sq.v (r_move (look_t rfl)) rfl rfl rfl ?_
  refine Sq.v (r_and64 (look_t rfl) (look_u64 3689348814741910323 rfl)) rfl rfl rfl ?_
  obtain ⟨z2, hz2, h⟩ := bind_some h
  refine Sq.v ((r_add64 (look_t rfl) (look_t rfl)).as (some_in hz2)) rfl rfl rfl ?_
  refine Sq.v (r_asg (look_t rfl)) rfl rfl rfl ?_
  refine Sq.nil ?_
  refine To.next ?_
  refine Wp.seq ?_
  refine Wp.reg ?_
  refine Sq.v (r_move (look_t rfl)) rfl rfl rfl ?_
  refine Sq.v (r_shr64 (look_t rfl) (look_u64 4 rfl)) rfl rfl rfl ?_
  refine Sq.v (r_move (look_t rfl)) rfl rfl rfl ?_
  refine Sq.v (r_add64 (look_t rfl) (look_t rfl)) rfl rfl rfl ?_
  refine Sq.v (r_and64 (look_t rfl) (look_u64 1085102592571150095 rfl)) rfl rfl rfl ?_
  refine Sq.v (r_asg (look_t rfl)) rfl rfl rfl ?_
  refine Sq.nil ?_
  refine To.next ?_
  refine Wp.seq ?_
  refine Wp.reg ?_
  refine Sq.v (r_move (look_t rfl)) rfl rfl rfl ?_
  refine Sq.v (r_move (look_t rfl)) rfl rfl rfl ?_
  obtain ⟨z3, hz3, h⟩ := bind_some h
  refine Sq.v ((r_shr64 (look_t rfl) (look_u64 8 rfl)).as (some_in hz3)) rfl rfl rfl ?_
  refine Sq.v (r_add64 (look_t rfl) (look_t rfl)) rfl rfl rfl ?_
  refine Sq.v (r_asg (look_t rfl)) rfl rfl rfl ?_
  refine Sq.nil ?_
  refine To.next ?_
  refine Wp.seq ?_
  refine Wp.reg ?_
  refine Sq.v (r_move (look_t rfl)) rfl rfl rfl ?_
  refine Sq.v (r_move (look_t rfl)) rfl rfl rfl ?_
  obtain ⟨z4, hz4, h⟩ := bind_some h
  refine Sq.v ((r_shr64 (look_t rfl) (look_u64 16 rfl)).as (some_in hz4)) rfl rfl rfl ?_
  obtain ⟨z5, hz5, h⟩ := bind_some h
  refine Sq.v ((r_add64 (look_t rfl) (look_t rfl)).as (some_in hz5)) rfl rfl rfl ?_
  refine Sq.v (r_asg (look_t rfl)) rfl rfl rfl ?_
  refine Sq.nil ?_
  refine To.next ?_
  refine Wp.seq ?_
  refine Wp.reg ?_
  refine Sq.v (r_move (look_t rfl)) rfl rfl rfl ?_
  refine Sq.v (r_move (look_t rfl)) rfl rfl rfl ?_
  refine Sq.v (r_shr64 (look_t rfl) (look_u64 32 rfl)) rfl rfl rfl ?_
  refine Sq.v (r_add64 (look_t rfl) (look_t rfl)) rfl rfl rfl ?_
  refine Sq.v (r_asg (look_t rfl)) rfl rfl rfl ?_
  refine Sq.nil ?_
  refine To.next ?_
  refine Wp.seq ?_
  refine Wp.reg ?_
  refine Sq.v (r_move (look_t rfl)) rfl rfl rfl ?_
  refine Sq.v (r_c64i Try.underlying22 Try.underlying3 (look_t rfl)) rfl rfl rfl ?_
  refine Sq.v (r_iand (look_t rfl) (look_int 127)) rfl rfl rfl ?_
  refine Sq.v (r_asg (look_t rfl)) rfl rfl rfl ?_
  refine Sq.nil ?_
  refine To.next ?_
  refine Wp.ret ?_
  replace h := some_in h
  subst h
  exact To.end1 rfl (rv_t rfl)
set_option maxHeartbeats 2000000 in
theorem C_ref25_Within {x0 : Vector (BitVec 8) 512} {x1 : Vector (BitVec 8) 512}  {r : Bool} (h : L_ref25_Within x0 x1 = some r) : Meets Try.prog 28 [VP.of (x0), VP.of (x1)] (VP.of (r)) := by
  unfold L_ref25_Within at h
  refine Meets.of Try.func28 rfl Try.ntmps28 rfl fun W A => ?_
  refine Wp.seq ?_
  refine Wp.reg ?_
  refine Sq.box (z := (x0 : Vector (BitVec 8) 512)) (look_t rfl) rfl fun p1 => ?_
  refine Sq.box (z := (x1 : Vector (BitVec 8) 512)) (look_t rfl) rfl fun p2 => ?_
  refine Sq.v (r_asg (look_bool false)) rfl rfl rfl ?_
  refine Sq.nil ?_
  refine To.next ?_
  refine Wp.seq ?_
  refine Wp.seq ?_
  refine Wp.reg ?_
  refine Sq.v (r_move (look_int 0)) rfl rfl rfl ?_
  refine Sq.nil ?_
  refine To.next ?_
  refine Wp.block ?_
  obtain ⟨e1, hl, h⟩ := bind_some h
  refine Wp.loopG (σ := Int) (ε := (Int × Bool) ⊕ (Int × Int × Bool × Bool)) (γ := Unit) (δ := Unit) hl (fun s1 g1 => [(0, VP.of (x0)), (1, VP.of (x1)), (2, VP.eq (.pointer (some ⟨p1, 0, none⟩))), (3, VP.eq (.pointer (some ⟨p2, 0, none⟩))), (4, VP.of (false)), (6, VP.of (s1))]) (fun s1 g1 => [⟨some p2, .var (x1 : Vector (BitVec 8) 512)⟩, ⟨some p1, .var (x0 : Vector (BitVec 8) 512)⟩]) (fun q1 => Sum.elim (fun q1 => Exit.exit 0) (fun q1 => Exit.ret) q1) (fun q1 g1 => Sum.elim (fun q1 => [(0, VP.of (x0)), (1, VP.of (x1)), (2, VP.eq (.pointer (some ⟨p1, 0, none⟩))), (3, VP.eq (.pointer (some ⟨p2, 0, none⟩))), (4, VP.of (false)), (6, VP.of (q1.1)), (7, VP.of (q1.2))]) (fun q1 => [(0, VP.of (x0)), (1, VP.of (x1)), (2, VP.eq (.pointer (some ⟨p1, 0, none⟩))), (3, VP.eq (.pointer (some ⟨p2, 0, none⟩))), (4, VP.of (false)), (5, VP.of (q1.1)), (6, VP.of (q1.2.1)), (7, VP.of (q1.2.2.1)), (21, VP.of (q1.2.2.2))]) q1) (fun q1 g1 => Sum.elim (fun q1 => [⟨some p2, .var (x1 : Vector (BitVec 8) 512)⟩, ⟨some p1, .var (x0 : Vector (BitVec 8) 512)⟩]) (fun q1 => [⟨some p2, .var (x1 : Vector (BitVec 8) 512)⟩, ⟨some p1, .var (x0 : Vector (BitVec 8) 512)⟩]) q1) () rfl (.same rfl (.same rfl (.same rfl (.same rfl (.same rfl (.same rfl .nil)))))) (fun s1 r h g1 => ?_) (fun g1 => ?_)
  · clear hl
    refine Wp.seq ?_
    refine Wp.reg ?_
    refine Sq.v (r_lss (look_t rfl) (look_int 512)) rfl rfl rfl ?_
    refine Sq.nil ?_
    refine To.next ?_
    refine Wp.seq ?_
    refine Wp.cond (look_t rfl) (fun hc => ?_) (fun hc => ?_)
    · replace h := cond_t hc h
      refine Wp.skip ?_
      refine To.next ?_
      refine Wp.seq ?_
      refine Wp.block ?_
      refine Wp.seq ?_
      refine Wp.reg ?_
      refine Sq.v (r_move (look_t rfl)) rfl rfl rfl ?_
      refine Sq.v (r_asg (look_t rfl)) rfl rfl rfl ?_
      refine Sq.nil ?_
      refine To.next ?_
      refine Wp.seq ?_
      obtain ⟨k1, hk1, h⟩ := bind_some h
      obtain ⟨k2, hk2, h⟩ := bind_some h
      obtain ⟨k3, hk3, h⟩ := bind_some h
      refine Wp.draw mixed 13 [some 9, some 10, some 11, some 12, some 13, some 14, some 15, some 16, some 17, some 18, some 19, some 20, some 21] [[], [0], [1], [2], [3], [4], [4, 5], [4, 6], [4], [4, 8], [4, 9], [4, 7, 10], [4, 11]] [.val (VP.of (s1)), .val (VP.eq (.pointer (some ⟨p2, 0 + k1 * 1, none⟩))), .val (VP.of (vget x1 k1)), .val (VP.of ((vget x1 k1) != (2#8))), .val (VP.of ((vget x1 k1) != (2#8))), .val (VP.cond (((vget x1 k1) != (2#8)) = true) (VP.of (s1))), .val (VP.cond (((vget x1 k1) != (2#8)) = true) (VP.eq (.pointer (some ⟨p1, 0 + k2 * 1, none⟩)))), .val (VP.cond (((vget x1 k1) != (2#8)) = true) (VP.of (vget x0 k2))), .val (VP.cond (((vget x1 k1) != (2#8)) = true) (VP.of (s1))), .val (VP.cond (((vget x1 k1) != (2#8)) = true) (VP.eq (.pointer (some ⟨p2, 0 + k3 * 1, none⟩)))), .val (VP.cond (((vget x1 k1) != (2#8)) = true) (VP.of (vget x1 k3))), .val (VP.cond (((vget x1 k1) != (2#8)) = true) (VP.of ((vget x0 k2) != (vget x1 k3)))), .val (VP.of (((vget x1 k1) != (2#8)) && ((vget x0 k2) != (vget x1 k3))))] [false, false, false, false, false, false, false, false, false, false, false, false, false] (by kernel_rfl) rfl rfl rfl (fun ps1 => ⟨fun L' hL => HO.v (r_move (look_t rfl)) rfl, fun L' hL => HO.v (r_ia (k := k1) ar36 (look_t rfl) (look_t rfl) (idx_some hk1)) rfl, fun L' hL => HO.v (r_load (i := 0) ((Lens.id (Vector (BitVec 8) 512)).comp (Lens.idx (α := BitVec 8) 512 k1 (idx_some hk1).1)) (r := vget x1 k1) ty5 (look_t rfl) (hL _ _ rfl rfl) rfl rfl) rfl, fun L' hL => HO.v (r_neq8 (look_t rfl) (look_u8 2 rfl)) rfl, fun L' hL => HO.v (r_move (look_t rfl)) rfl, fun L' hL => HO.g (fun hb => r_move (look_t rfl)) rfl rfl rfl, fun L' hL => HO.g (fun hb => r_ia (k := k2) ar36 (look_t rfl) (look_tc rfl hb) (idx_some (condM_some hk2 hb))) rfl rfl rfl, fun L' hL => HO.g (fun hb => r_load (i := 1) ((Lens.id (Vector (BitVec 8) 512)).comp (Lens.idx (α := BitVec 8) 512 k2 (idx_some (condM_some hk2 hb)).1)) (r := vget x0 k2) ty5 (look_tc rfl hb) (hL _ _ rfl rfl) rfl rfl) rfl rfl rfl, fun L' hL => HO.g (fun hb => r_move (look_t rfl)) rfl rfl rfl, fun L' hL => HO.g (fun hb => r_ia (k := k3) ar36 (look_t rfl) (look_tc rfl hb) (idx_some (condM_some hk3 hb))) rfl rfl rfl, fun L' hL => HO.g (fun hb => r_load (i := 0) ((Lens.id (Vector (BitVec 8) 512)).comp (Lens.idx (α := BitVec 8) 512 k3 (idx_some (condM_some hk3 hb)).1)) (r := vget x1 k3) ty5 (look_tc rfl hb) (hL _ _ rfl rfl) rfl rfl) rfl rfl rfl, fun L' hL => HO.g (fun hb => r_neq8 (look_tc rfl hb) (look_tc rfl hb)) rfl rfl rfl, fun L' hL => HO.v (r_and (look_t rfl) (look_t rfl) (fun h => h)) rfl, trivial⟩) fun ps1 => ?_
      refine Sq.nil ?_
      refine To.next ?_
      refine Wp.cond (look_t rfl) (fun hc => ?_) (fun hc => ?_)
      · replace h := cond_t hc h
        refine Wp.seq ?_
        refine Wp.reg ?_
        refine Sq.v (r_asg (look_bool false)) rfl rfl rfl ?_
        refine Sq.nil ?_
        refine To.next ?_
        refine Wp.ret ?_
        refine To.bret ?_
        refine To.ret ?_
        replace h := some_in h
        subst h
        exact To.leaveG () 0 rfl (by simp) rfl (.same rfl (.same rfl (.same rfl (.same rfl (.same rfl (.same rfl (.same rfl (.same rfl (.same rfl .nil)))))))))
      · replace h := cond_f hc h
        refine Wp.skip ?_
        refine To.bnorm ?_
        refine To.next ?_
        refine Wp.reg ?_
        refine Sq.v (r_add (look_t rfl) (look_int 1)) rfl rfl rfl ?_
        refine Sq.v (r_move (look_t rfl)) rfl rfl rfl ?_
        refine Sq.nil ?_
        replace h := some_in h
        subst h
        exact To.roundG () 0 rfl (.same rfl (.same rfl (.same rfl (.same rfl (.same rfl (.same rfl .nil))))))
    · replace h := cond_f hc h
      refine Wp.exit ?_
      refine To.exit ?_
      replace h := some_in h
      subst h
      exact To.leaveG () 0 rfl (by simp) rfl (.same rfl (.same rfl (.same rfl (.same rfl (.same rfl (.same rfl (.same rfl .nil)))))))
  · clear hl
    rcases e1 with e1 | e1
    · simp only [Sum.elim_inl] at h
      refine To.bexit ?_
      refine To.next ?_
      refine Wp.seq ?_
      refine Wp.reg ?_
      refine Sq.v (r_asg (look_bool true)) rfl rfl rfl ?_
      refine Sq.nil ?_
      refine To.next ?_
      refine Wp.ret ?_
      replace h := some_in h
      subst h
      exact To.end1 rfl (rv_t rfl)
    · simp only [Sum.elim_inr] at h
      refine To.bret ?_
      refine To.ret ?_
      replace h := some_in h
      subst h
      exact To.end1 rfl (rv_t rfl)
set_option maxHeartbeats 2000000 in
theorem C_ref01_clamp {x0 : Int}  {r : Int} (h : L_ref01_clamp x0 = some r) : Meets Try.prog 64 [VP.of (x0)] (VP.of (r)) := by
  unfold L_ref01_clamp at h
  refine Meets.of Try.func64 rfl Try.ntmps64 rfl fun W A => ?_
  refine Wp.seq ?_
  refine Wp.reg ?_
  refine Sq.v (r_asg (look_int 0)) rfl rfl rfl ?_
  refine Sq.nil ?_
  refine To.next ?_
  refine Wp.seq ?_
  refine Wp.reg ?_
  refine Sq.v (r_move (look_t rfl)) rfl rfl rfl ?_
  refine Sq.v (r_min (look_t rfl) (look_int 128)) rfl rfl rfl ?_
  refine Sq.v (r_max (look_int 0) (look_t rfl)) rfl rfl rfl ?_
  refine Sq.v (r_asg (look_t rfl)) rfl rfl rfl ?_
  refine Sq.nil ?_
  refine To.next ?_
  refine Wp.ret ?_
  replace h := some_in h
  subst h
  exact To.end1 rfl (rv_t rfl)
set_option maxHeartbeats 2000000 in
theorem C_ref25_Free {x0 : Vector (BitVec 8) 512}  {r : Int} (h : L_ref25_Free x0 = some r) : Meets Try.prog 31 [VP.of (x0)] (VP.of (r)) := by
  unfold L_ref25_Free at h
  refine Meets.of Try.func31 rfl Try.ntmps31 rfl fun W A => ?_
  refine Wp.seq ?_
  refine Wp.reg ?_
  refine Sq.box (z := (x0 : Vector (BitVec 8) 512)) (look_t rfl) rfl fun p1 => ?_
  refine Sq.v (r_asg (look_int 0)) rfl rfl rfl ?_
  refine Sq.nil ?_
  refine To.next ?_
  refine Wp.seq ?_
  refine Wp.reg ?_
  refine Sq.v (r_asg (look_int 0)) rfl rfl rfl ?_
  refine Sq.nil ?_
  refine To.next ?_
  refine Wp.seq ?_
  refine Wp.seq ?_
  refine Wp.reg ?_
  refine Sq.v (r_load (i := 0) (Lens.id (Vector (BitVec 8) 512)) (r := x0) ty36 (look_t rfl) rfl rfl rfl) rfl rfl rfl ?_
  refine Sq.v (r_move (look_int 0)) rfl rfl rfl ?_
  refine Sq.nil ?_
  refine To.next ?_
  refine Wp.block ?_
  obtain ⟨e1, hl, h⟩ := bind_some h
  refine Wp.loopG (σ := Int × Int) (ε := (Int × Int × Bool)) (γ := Unit) (δ := Unit) hl (fun s1 g1 => [(0, VP.of (x0)), (1, VP.eq (.pointer (some ⟨p1, 0, none⟩))), (2, VP.of (0 : Int)), (3, VP.of (s1.1)), (6, VP.of (x0)), (7, VP.of (s1.2))]) (fun s1 g1 => [⟨some p1, .var (x0 : Vector (BitVec 8) 512)⟩]) (fun q1 => Exit.exit 0) (fun q1 g1 => [(0, VP.of (x0)), (1, VP.eq (.pointer (some ⟨p1, 0, none⟩))), (2, VP.of (0 : Int)), (3, VP.of (q1.1)), (6, VP.of (x0)), (7, VP.of (q1.2.1)), (8, VP.of (q1.2.2))]) (fun q1 g1 => [⟨some p1, .var (x0 : Vector (BitVec 8) 512)⟩]) () rfl (.same rfl (.same rfl (.same rfl (.same rfl (.same rfl (.same rfl .nil)))))) (fun s1 r h g1 => ?_) (fun g1 => ?_)
  · clear hl
    refine Wp.seq ?_
    refine Wp.reg ?_
    refine Sq.v (r_lss (look_t rfl) (look_int 512)) rfl rfl rfl ?_
    refine Sq.nil ?_
    refine To.next ?_
    refine Wp.seq ?_
    refine Wp.cond (look_t rfl) (fun hc => ?_) (fun hc => ?_)
    · replace h := cond_t hc h
      refine Wp.skip ?_
      refine To.next ?_
      refine Wp.seq ?_
      refine Wp.block ?_
      refine Wp.seq ?_
      refine Wp.reg ?_
      obtain ⟨k1, hk1, h⟩ := bind_some h
      refine Sq.v (r_index (k := k1) Try.underlying36 ty5 (look_t rfl) (look_t rfl) (idx_some hk1)) rfl rfl rfl ?_
      refine Sq.v (r_asg (look_t rfl)) rfl rfl rfl ?_
      refine Sq.nil ?_
      refine To.next ?_
      refine Wp.seq ?_
      refine Wp.reg ?_
      refine Sq.v (r_move (look_t rfl)) rfl rfl rfl ?_
      refine Sq.v (r_eql8 (look_t rfl) (look_u8 2 rfl)) rfl rfl rfl ?_
      refine Sq.nil ?_
      refine To.next ?_
      obtain ⟨m1, hm1, h⟩ := bind_some h
      refine Wp.condM (γ := Unit) (fun g2 => [(0, VP.of (x0)), (1, VP.eq (.pointer (some ⟨p1, 0, none⟩))), (2, VP.of (0 : Int)), (3, VP.of (m1)), (5, VP.of (vget x0 k1)), (6, VP.of (x0)), (7, VP.of (s1.2)), (8, VP.of (decide (s1.2 < 512))), (11, VP.of ((vget x0 k1) == (2#8)))]) (fun g2 => [⟨some p1, .var (x0 : Vector (BitVec 8) 512)⟩]) (look_t rfl) (fun g2 => ?_) (fun hm hc => ?_) (fun hm hc => ?_)
      · clear hm1
        refine To.bnorm ?_
        refine To.next ?_
        refine Wp.reg ?_
        refine Sq.v (r_add (look_t rfl) (look_int 1)) rfl rfl rfl ?_
        refine Sq.v (r_move (look_t rfl)) rfl rfl rfl ?_
        refine Sq.nil ?_
        replace h := some_in h
        subst h
        exact To.roundG () 0 rfl (.same rfl (.same rfl (.same rfl (.same rfl (.same rfl (.same rfl .nil))))))
      · have h := cond_t hc hm1
        refine Wp.reg ?_
        refine Sq.v (r_move (look_t rfl)) rfl rfl rfl ?_
        refine Sq.v (r_add (look_t rfl) (look_int 1)) rfl rfl rfl ?_
        refine Sq.v (r_asg (look_t rfl)) rfl rfl rfl ?_
        refine Sq.nil ?_
        replace h := some_in h
        subst h
        exact To.meet 0 rfl (.same rfl (.same rfl (.same rfl (.same rfl (.same rfl (.same rfl (.same rfl (.same rfl (.same rfl .nil))))))))) (hm ())
      · have h := cond_f hc hm1
        refine Wp.skip ?_
        replace h := some_in h
        subst h
        exact To.meet 0 rfl (.same rfl (.same rfl (.same rfl (.same rfl (.same rfl (.same rfl (.same rfl (.same rfl (.same rfl .nil))))))))) (hm ())
    · replace h := cond_f hc h
      refine Wp.exit ?_
      refine To.exit ?_
      replace h := some_in h
      subst h
      exact To.leaveG () 0 rfl (by simp) rfl (.same rfl (.same rfl (.same rfl (.same rfl (.same rfl (.same rfl (.same rfl .nil)))))))
  · clear hl
    refine To.bexit ?_
    refine To.next ?_
    refine Wp.seq ?_
    refine Wp.reg ?_
    refine Sq.v (r_move (look_t rfl)) rfl rfl rfl ?_
    refine Sq.v (r_asg (look_t rfl)) rfl rfl rfl ?_
    refine Sq.nil ?_
    refine To.next ?_
    refine Wp.ret ?_
    replace h := some_in h
    subst h
    exact To.end1 rfl (rv_t rfl)
set_option maxHeartbeats 2000000 in
theorem C_mcase_Mod {x0 : Int} {x1 : Int}  {r : Int} (h : L_mcase_Mod x0 x1 = some r) : Meets Try.prog 20 [VP.of (x0), VP.of (x1)] (VP.of (r)) := by
  unfold L_mcase_Mod at h
  refine Meets.of Try.func20 rfl Try.ntmps20 rfl fun W A => ?_
  refine Wp.seq ?_
  refine Wp.reg ?_
  refine Sq.v (r_asg (look_int 0)) rfl rfl rfl ?_
  refine Sq.nil ?_
  refine To.next ?_
  refine Wp.seq ?_
  refine Wp.seq ?_
  refine Wp.reg ?_
  refine Sq.v (r_move (look_t rfl)) rfl rfl rfl ?_
  refine Sq.v (r_lss (look_t rfl) (look_int 1)) rfl rfl rfl ?_
  refine Sq.nil ?_
  refine To.next ?_
  refine Wp.cond (look_t rfl) (fun hc => ?_) (fun hc => ?_)
  · replace h := cond_t hc h
    refine Wp.seq ?_
    refine Wp.reg ?_
    refine Sq.v (r_asg (look_int 0)) rfl rfl rfl ?_
    refine Sq.nil ?_
    refine To.next ?_
    refine Wp.ret ?_
    refine To.ret ?_
    replace h := some_in h
    subst h
    exact To.end1 rfl (rv_t rfl)
  · replace h := cond_f hc h
    refine Wp.skip ?_
    refine To.next ?_
    refine Wp.seq ?_
    refine Wp.reg ?_
    refine Sq.v (r_move (look_t rfl)) rfl rfl rfl ?_
    refine Sq.v (r_move (look_t rfl)) rfl rfl rfl ?_
    obtain ⟨y1, hy1, h⟩ := bind_some h
    refine Sq.v (r_rem (look_t rfl) (look_t rfl) (modM_some hy1)) rfl rfl rfl ?_
    refine Sq.v (r_move (look_t rfl)) rfl rfl rfl ?_
    refine Sq.v (r_add (look_t rfl) (look_t rfl)) rfl rfl rfl ?_
    refine Sq.v (r_move (look_t rfl)) rfl rfl rfl ?_
    obtain ⟨y2, hy2, h⟩ := bind_some h
    refine Sq.v (r_rem (look_t rfl) (look_t rfl) (modM_some hy2)) rfl rfl rfl ?_
    refine Sq.v (r_asg (look_t rfl)) rfl rfl rfl ?_
    refine Sq.nil ?_
    refine To.next ?_
    refine Wp.ret ?_
    replace h := some_in h
    subst h
    exact To.end1 rfl (rv_t rfl)
set_option maxHeartbeats 2000000 in
theorem C_law26_made {x0 : List (BitVec 16)} {x1 : Int}  {r : (List T_cube_Cube)} (h : L_law26_made x0 x1 = some r) : Meets Try.prog 32 [VP.of (x0), VP.of (x1)] (VP.of (r)) := by
  unfold L_law26_made at h
  refine Meets.of Try.func32 rfl Try.ntmps32 rfl fun W A => ?_
  refine Wp.seq ?_
  refine Wp.reg ?_
  refine Sq.v (r_asg (look_nil (α := T_cube_Cube))) rfl rfl rfl ?_
  refine Sq.nil ?_
  refine To.next ?_
  refine Wp.seq ?_
  refine Wp.reg ?_
  refine Sq.own (α := T_cube_Cube) 28 ?_
  refine Sq.v (r_asg look_own) rfl rfl rfl ?_
  refine Sq.nil ?_
  refine To.next ?_
  refine Wp.seq ?_
  refine Wp.seq ?_
  refine Wp.reg ?_
  refine Sq.v (r_asg (look_int 0)) rfl rfl rfl ?_
  refine Sq.nil ?_
  refine To.next ?_
  refine Wp.block ?_
  obtain ⟨e1, hl, h⟩ := bind_some h
  refine Wp.loopG (σ := Int × (List T_cube_Cube)) (ε := (Int × Bool × (List T_cube_Cube))) (γ := (Option Nat × Nat)) (δ := (Option Nat × Nat)) hl (fun s1 g1 => [(0, VP.of (x0)), (1, VP.of (x1)), (4, VP.of ([] : List T_cube_Cube)), (5, VP.eq (slv g1.1 s1.2.length g1.2)), (6, VP.of (s1.1))]) (fun s1 g1 => [⟨g1.1, .row 28 (s1.2 : List T_cube_Cube) g1.2⟩]) (fun q1 => Exit.exit 0) (fun q1 g1 => [(0, VP.of (x0)), (1, VP.of (x1)), (4, VP.of ([] : List T_cube_Cube)), (5, VP.eq (slv g1.1 q1.2.2.length g1.2)), (6, VP.of (q1.1)), (24, VP.of (q1.2.1))]) (fun q1 g1 => [⟨g1.1, .row 28 (q1.2.2 : List T_cube_Cube) g1.2⟩]) (none, 0) rfl (.same rfl (.same rfl (.same rfl (.same rfl (.same rfl .nil))))) (fun s1 r h g1 => ?_) (fun g1 => ?_)
  · clear hl
    refine Wp.seq ?_
    refine Wp.seq ?_
    refine Wp.reg ?_
    refine Sq.v (r_move (look_t rfl)) rfl rfl rfl ?_
    refine Sq.v (r_add (look_t rfl) (look_int 1)) rfl rfl rfl ?_
    refine Sq.v (r_move (look_t rfl)) rfl rfl rfl ?_
    refine Sq.v (r_len Try.underlying58 (look_t rfl)) rfl rfl rfl ?_
    refine Sq.v (r_lss (look_t rfl) (look_t rfl)) rfl rfl rfl ?_
    refine Sq.v (r_move (look_t rfl)) rfl rfl rfl ?_
    refine Sq.g (fun hb => r_move (look_t rfl)) rfl rfl rfl rfl rfl ?_
    refine Sq.g (fun hb => r_lenO (i := 0) Try.underlying31 (look_tc rfl hb) rfl rfl) rfl rfl rfl rfl rfl ?_
    refine Sq.g (fun hb => r_move (look_t rfl)) rfl rfl rfl rfl rfl ?_
    refine Sq.g (fun hb => r_lss (look_tc rfl hb) (look_tc rfl hb)) rfl rfl rfl rfl rfl ?_
    obtain ⟨z1, hz1, h⟩ := bind_some h
    refine Sq.v ((r_and (look_t rfl) (look_t rfl) (fun h => h)).as (some_in hz1)) rfl rfl rfl ?_
    refine Sq.nil ?_
    refine To.next ?_
    refine Wp.cond (look_t rfl) (fun hc => ?_) (fun hc => ?_)
    · replace h := cond_t hc h
      refine Wp.skip ?_
      refine To.next ?_
      refine Wp.seq ?_
      refine Wp.block ?_
      refine Wp.seq ?_
      obtain ⟨k1, hk1, h⟩ := bind_some h
      obtain ⟨k2, hk2, h⟩ := bind_some h
      obtain ⟨k3, hk3, h⟩ := bind_some h
      refine Wp.draw mixed 17 ((some 27) :: (some 28) :: (some 29) :: (some 30) :: (some 31) :: (some 32) :: (some 33) :: (some 34) :: (some 35) :: (some 36) :: (some 37) :: (some 38) :: (some 39) :: (some 40) :: (some 41) :: (some 42) :: (some 7) :: []) ([] :: [] :: [0, 1] :: [2] :: [3] :: [] :: [] :: [5, 6] :: [7] :: [] :: [] :: [10] :: [9, 11] :: [12] :: [8, 13] :: [14] :: [4] :: []) (.val (VP.of (x0)) :: .val (VP.of (s1.1)) :: .val (VP.ptr (lget x0 k1)) :: .val (VP.of (lget x0 k1)) :: .val (VP.of ((lget x0 k1).setWidth 64)) :: .val (VP.of (x0)) :: .val (VP.of (s1.1)) :: .val (VP.ptr (lget x0 k2)) :: .val (VP.of (lget x0 k2)) :: .val (VP.of (x0)) :: .val (VP.of (s1.1)) :: .val (VP.of (w64 (s1.1 + 1))) :: .val (VP.ptr (lget x0 k3)) :: .val (VP.of (lget x0 k3)) :: .val (VP.of ((lget x0 k2) &&& (lget x0 k3))) :: .val (VP.of (((lget x0 k2) &&& (lget x0 k3)).setWidth 64)) :: .val (VP.of ((lget x0 k1).setWidth 64)) :: []) (false :: false :: false :: false :: false :: false :: false :: false :: false :: false :: false :: false :: false :: false :: false :: false :: false :: []) (by kernel_rfl) rfl rfl rfl (fun ps1 => ⟨fun L' hL => HO.v (r_move (look_t rfl)) rfl, fun L' hL => HO.v (r_move (look_t rfl)) rfl, fun L' hL => HO.v (r_ias (k := k1) Try.underlying58 ty66 (look_t rfl) (look_t rfl) (idx_some hk1)) rfl, fun L' hL => HO.v (r_loadp ty66 (look_t rfl)) rfl, fun L' hL => HO.v (r_c16_64 Try.underlying66 Try.underlying22 (look_t rfl)) rfl, fun L' hL => HO.v (r_move (look_t rfl)) rfl, fun L' hL => HO.v (r_move (look_t rfl)) rfl, fun L' hL => HO.v (r_ias (k := k2) Try.underlying58 ty66 (look_t rfl) (look_t rfl) (idx_some hk2)) rfl, fun L' hL => HO.v (r_loadp ty66 (look_t rfl)) rfl, fun L' hL => HO.v (r_move (look_t rfl)) rfl, fun L' hL => HO.v (r_move (look_t rfl)) rfl, fun L' hL => HO.v (r_add (look_t rfl) (look_int 1)) rfl, fun L' hL => HO.v (r_ias (k := k3) Try.underlying58 ty66 (look_t rfl) (look_t rfl) (idx_some hk3)) rfl, fun L' hL => HO.v (r_loadp ty66 (look_t rfl)) rfl, fun L' hL => HO.v (r_and16 (look_t rfl) (look_t rfl)) rfl, fun L' hL => HO.v (r_c16_64 Try.underlying66 Try.underlying22 (look_t rfl)) rfl, fun L' hL => HO.v (r_asg (look_t rfl)) rfl, trivial⟩) fun ps1 => ?_
      refine Sq.v (r_asg (look_t rfl)) rfl rfl rfl ?_
      refine Sq.nil ?_
      refine To.next ?_
      refine Wp.seq ?_
      refine Wp.reg ?_
      refine Sq.alloc zr28 rfl fun p1 => ?_
      refine Sq.nil ?_
      refine To.next ?_
      refine Wp.seq ?_
      refine Wp.seq ?_
      refine Wp.reg ?_
      refine Sq.v (r_bsl (r := [126#64, 64#64, 0#64, 60#64]) Try.underlying118 ty117 zr117 rfl rfl (.cons (by simp) (look_u64 126 rfl) (.cons (by simp) (look_u64 64 rfl) (.cons (by simp) (look_u64 0 rfl) (.cons (by simp) (look_u64 60 rfl) (.nil)))))) rfl rfl rfl ?_
      refine Sq.v (r_len Try.underlying118 (look_t rfl)) rfl rfl rfl ?_
      refine Sq.v (r_move (look_int 0)) rfl rfl rfl ?_
      refine Sq.nil ?_
      refine To.next ?_
      refine Wp.block ?_
      obtain ⟨e2, hl, h⟩ := bind_some h
      refine Wp.loopG (σ := Int × T_cube_Cube) (ε := (Int × Bool × T_cube_Cube)) (γ := Unit) (δ := Unit) hl (fun s2 g2 => [(0, VP.of (x0)), (1, VP.of (x1)), (4, VP.of ([] : List T_cube_Cube)), (5, VP.eq (slv g1.1 s1.2.length g1.2)), (6, VP.of (s1.1)), (7, VP.of ((lget x0 k1).setWidth 64)), (8, VP.of (((lget x0 k2) &&& (lget x0 k3)).setWidth 64)), (9, VP.eq (.pointer (some ⟨p1, 0, none⟩))), (24, VP.of (z1)), (43, VP.of ([126#64, 64#64, 0#64, 60#64])), (44, VP.of ([126#64, 64#64, 0#64, 60#64].length : Int)), (45, VP.of (s2.1))]) (fun s2 g2 => [⟨some p1, .var (s2.2 : T_cube_Cube)⟩, ⟨g1.1, .row 28 (s1.2 : List T_cube_Cube) g1.2⟩]) (fun q2 => Exit.exit 2) (fun q2 g2 => [(0, VP.of (x0)), (1, VP.of (x1)), (4, VP.of ([] : List T_cube_Cube)), (5, VP.eq (slv g1.1 s1.2.length g1.2)), (6, VP.of (s1.1)), (7, VP.of ((lget x0 k1).setWidth 64)), (8, VP.of (((lget x0 k2) &&& (lget x0 k3)).setWidth 64)), (9, VP.eq (.pointer (some ⟨p1, 0, none⟩))), (24, VP.of (z1)), (43, VP.of ([126#64, 64#64, 0#64, 60#64])), (44, VP.of ([126#64, 64#64, 0#64, 60#64].length : Int)), (45, VP.of (q2.1)), (46, VP.of (q2.2.1))]) (fun q2 g2 => [⟨some p1, .var (q2.2.2 : T_cube_Cube)⟩, ⟨g1.1, .row 28 (s1.2 : List T_cube_Cube) g1.2⟩]) () rfl (.same rfl (.same rfl (.same rfl (.same rfl (.same rfl (.same rfl (.same rfl (.same rfl (.same rfl (.same rfl (.same rfl (.same rfl .nil)))))))))))) (fun s2 r h g2 => ?_) (fun g2 => ?_)
      · clear hl
        refine Wp.seq ?_
        refine Wp.reg ?_
        refine Sq.v (r_lss (look_t rfl) (look_t rfl)) rfl rfl rfl ?_
        refine Sq.nil ?_
        refine To.next ?_
        refine Wp.seq ?_
        refine Wp.cond (look_t rfl) (fun hc => ?_) (fun hc => ?_)
        · replace h := cond_t hc h
          refine Wp.skip ?_
          refine To.next ?_
          refine Wp.seq ?_
          refine Wp.block ?_
          refine Wp.seq ?_
          refine Wp.reg ?_
          refine Sq.v (r_move (look_t rfl)) rfl rfl rfl ?_
          obtain ⟨k4, hk4, h⟩ := bind_some h
          refine Sq.v (r_ias (k := k4) Try.underlying118 ty117 (look_t rfl) (look_t rfl) (idx_some hk4)) rfl rfl rfl ?_
          refine Sq.v (r_loadp ty117 (look_t rfl)) rfl rfl rfl ?_
          refine Sq.v (r_asg (look_t rfl)) rfl rfl rfl ?_
          refine Sq.v (r_asg (look_t rfl)) rfl rfl rfl ?_
          refine Sq.nil ?_
          refine To.next ?_
          refine Wp.seq ?_
          refine Wp.reg ?_
          refine Sq.v (r_move (look_t rfl)) rfl rfl rfl ?_
          refine Sq.v (r_move (look_t rfl)) rfl rfl rfl ?_
          refine Sq.v (r_mul (look_int 2) (look_t rfl)) rfl rfl rfl ?_
          refine Sq.v (r_ci64 Try.underlying3 Try.underlying117 (look_t rfl)) rfl rfl rfl ?_
          obtain ⟨z2, hz2, h⟩ := bind_some h
          refine Sq.v ((r_shr64 (look_t rfl) (look_t rfl)).as (some_in hz2)) rfl rfl rfl ?_
          refine Sq.v (r_and64 (look_t rfl) (look_u64 3 rfl)) rfl rfl rfl ?_
          refine Sq.v (r_move (look_t rfl)) rfl rfl rfl ?_
          refine Sq.v (r_move (look_t rfl)) rfl rfl rfl ?_
          refine Sq.v (r_mul (look_int 2) (look_t rfl)) rfl rfl rfl ?_
          refine Sq.v (r_ci64 Try.underlying3 Try.underlying117 (look_t rfl)) rfl rfl rfl ?_
          obtain ⟨z3, hz3, h⟩ := bind_some h
          refine Sq.v ((r_shr64 (look_t rfl) (look_t rfl)).as (some_in hz3)) rfl rfl rfl ?_
          refine Sq.v (r_and64 (look_t rfl) (look_u64 3 rfl)) rfl rfl rfl ?_
          refine Sq.v (r_asg (look_t rfl)) rfl rfl rfl ?_
          refine Sq.v (r_asg (look_t rfl)) rfl rfl rfl ?_
          refine Sq.nil ?_
          refine To.next ?_
          refine Wp.seq ?_
          refine Wp.reg ?_
          refine Sq.v (r_move (look_t rfl)) rfl rfl rfl ?_
          refine Sq.v (r_geq64 (look_t rfl) (look_u64 64 rfl)) rfl rfl rfl ?_
          refine Sq.nil ?_
          refine To.next ?_
          obtain ⟨m1, hm1, h⟩ := bind_some h
          refine Wp.condM (γ := Unit) (fun g3 => [(0, VP.of (x0)), (1, VP.of (x1)), (4, VP.of ([] : List T_cube_Cube)), (5, VP.eq (slv g1.1 s1.2.length g1.2)), (6, VP.of (s1.1)), (7, VP.of ((lget x0 k1).setWidth 64)), (8, VP.of (((lget x0 k2) &&& (lget x0 k3)).setWidth 64)), (9, VP.eq (.pointer (some ⟨p1, 0, none⟩))), (10, VP.of (s2.1)), (11, VP.of (lget [126#64, 64#64, 0#64, 60#64] k4)), (12, VP.of (z2 &&& (3#64))), (13, VP.of (z3 &&& (3#64))), (24, VP.of (z1)), (43, VP.of ([126#64, 64#64, 0#64, 60#64])), (44, VP.of ([126#64, 64#64, 0#64, 60#64].length : Int)), (45, VP.of (s2.1)), (46, VP.of (decide (s2.1 < ([126#64, 64#64, 0#64, 60#64].length : Int)))), (63, VP.of (decide ((lget [126#64, 64#64, 0#64, 60#64] k4) ≥ (64#64))))]) (fun g3 => [⟨some p1, .var (m1 : T_cube_Cube)⟩, ⟨g1.1, .row 28 (s1.2 : List T_cube_Cube) g1.2⟩]) (look_t rfl) (fun g3 => ?_) (fun hm hc => ?_) (fun hm hc => ?_)
          · clear hm1
            refine To.bnorm ?_
            refine To.next ?_
            refine Wp.reg ?_
            refine Sq.v (r_add (look_t rfl) (look_int 1)) rfl rfl rfl ?_
            refine Sq.v (r_move (look_t rfl)) rfl rfl rfl ?_
            refine Sq.nil ?_
            replace h := some_in h
            subst h
            exact To.roundG () 0 rfl (.same rfl (.same rfl (.same rfl (.same rfl (.same rfl (.same rfl (.same rfl (.same rfl (.same rfl (.same rfl (.same rfl (.same rfl .nil))))))))))))
          · have h := cond_t hc hm1
            refine Wp.reg ?_
            refine Sq.v (r_move (look_t rfl)) rfl rfl rfl ?_
            refine Sq.v (r_move (look_t rfl)) rfl rfl rfl ?_
            refine Sq.v (r_move (look_t rfl)) rfl rfl rfl ?_
            refine Sq.v (r_move (look_t rfl)) rfl rfl rfl ?_
            refine Sq.v (r_sub64 (look_t rfl) (look_u64 64 rfl)) rfl rfl rfl ?_
            obtain ⟨z4, hz4, h⟩ := bind_some h
            refine Sq.v ((r_shl64 (look_t rfl) (look_t rfl)).as (some_in hz4)) rfl rfl rfl ?_
            refine Sq.v (r_move (look_t rfl)) rfl rfl rfl ?_
            refine Sq.v (r_move (look_t rfl)) rfl rfl rfl ?_
            refine Sq.v (r_sub64 (look_t rfl) (look_u64 64 rfl)) rfl rfl rfl ?_
            obtain ⟨z5, hz5, h⟩ := bind_some h
            refine Sq.v ((r_shl64 (look_t rfl) (look_t rfl)).as (some_in hz5)) rfl rfl rfl ?_
            refine Sq.v (r_fa fd28_1 (look_t rfl)) rfl rfl rfl ?_
            obtain ⟨k5, hk5, h⟩ := bind_some h
            refine Sq.v (r_ia (k := k5) ar26 (look_t rfl) (look_t rfl) (idx_some hk5)) rfl rfl rfl ?_
            refine Sq.v (r_fa fd24_0 (look_t rfl)) rfl rfl rfl ?_
            obtain ⟨z6, hz6, h⟩ := bind_some h
            refine Sq.store (i := 0) ((((Lens.id T_cube_Cube).comp le_T_cube_Cube_Mask).comp (Lens.idx (α := T_api_Value) 4 k5 (idx_some hk5).1)).comp le_T_api_Value_Hi) (v := (z4 : BitVec 64)) (b' := (z6 : T_cube_Cube)) ty22 (look_t rfl) (look_t rfl) rfl rfl (some_in hz6) ?_
            refine Sq.v (r_fa fd28_0 (look_t rfl)) rfl rfl rfl ?_
            obtain ⟨k6, hk6, h⟩ := bind_some h
            refine Sq.v (r_ia (k := k6) ar26 (look_t rfl) (look_t rfl) (idx_some hk6)) rfl rfl rfl ?_
            refine Sq.v (r_fa fd24_0 (look_t rfl)) rfl rfl rfl ?_
            obtain ⟨z7, hz7, h⟩ := bind_some h
            refine Sq.store (i := 0) ((((Lens.id T_cube_Cube).comp le_T_cube_Cube_Value).comp (Lens.idx (α := T_api_Value) 4 k6 (idx_some hk6).1)).comp le_T_api_Value_Hi) (v := (z5 : BitVec 64)) (b' := (z7 : T_cube_Cube)) ty22 (look_t rfl) (look_t rfl) rfl rfl (some_in hz7) ?_
            refine Sq.nil ?_
            replace h := some_in h
            subst h
            exact To.meet 0 rfl (.same rfl (.same rfl (.same rfl (.same rfl (.same rfl (.same rfl (.same rfl (.same rfl (.same rfl (.same rfl (.same rfl (.same rfl (.same rfl (.same rfl (.same rfl (.same rfl (.same rfl (.same rfl .nil)))))))))))))))))) (hm ())
          · have h := cond_f hc hm1
            refine Wp.reg ?_
            refine Sq.v (r_move (look_t rfl)) rfl rfl rfl ?_
            refine Sq.v (r_move (look_t rfl)) rfl rfl rfl ?_
            refine Sq.v (r_move (look_t rfl)) rfl rfl rfl ?_
            refine Sq.v (r_move (look_t rfl)) rfl rfl rfl ?_
            refine Sq.v (r_shl64 (look_t rfl) (look_t rfl)) rfl rfl rfl ?_
            refine Sq.v (r_move (look_t rfl)) rfl rfl rfl ?_
            refine Sq.v (r_move (look_t rfl)) rfl rfl rfl ?_
            refine Sq.v (r_shl64 (look_t rfl) (look_t rfl)) rfl rfl rfl ?_
            refine Sq.v (r_fa fd28_1 (look_t rfl)) rfl rfl rfl ?_
            obtain ⟨k7, hk7, h⟩ := bind_some h
            refine Sq.v (r_ia (k := k7) ar26 (look_t rfl) (look_t rfl) (idx_some hk7)) rfl rfl rfl ?_
            refine Sq.v (r_fa fd24_1 (look_t rfl)) rfl rfl rfl ?_
            obtain ⟨z8, hz8, h⟩ := bind_some h
            refine Sq.store (i := 0) ((((Lens.id T_cube_Cube).comp le_T_cube_Cube_Mask).comp (Lens.idx (α := T_api_Value) 4 k7 (idx_some hk7).1)).comp le_T_api_Value_Lo) (v := ((z2 &&& (3#64)) <<< (lget [126#64, 64#64, 0#64, 60#64] k4).toNat : BitVec 64)) (b' := (z8 : T_cube_Cube)) ty22 (look_t rfl) (look_t rfl) rfl rfl (some_in hz8) ?_
            refine Sq.v (r_fa fd28_0 (look_t rfl)) rfl rfl rfl ?_
            obtain ⟨k8, hk8, h⟩ := bind_some h
            refine Sq.v (r_ia (k := k8) ar26 (look_t rfl) (look_t rfl) (idx_some hk8)) rfl rfl rfl ?_
            refine Sq.v (r_fa fd24_1 (look_t rfl)) rfl rfl rfl ?_
            obtain ⟨z9, hz9, h⟩ := bind_some h
            refine Sq.store (i := 0) ((((Lens.id T_cube_Cube).comp le_T_cube_Cube_Value).comp (Lens.idx (α := T_api_Value) 4 k8 (idx_some hk8).1)).comp le_T_api_Value_Lo) (v := ((z3 &&& (3#64)) <<< (lget [126#64, 64#64, 0#64, 60#64] k4).toNat : BitVec 64)) (b' := (z9 : T_cube_Cube)) ty22 (look_t rfl) (look_t rfl) rfl rfl (some_in hz9) ?_
            refine Sq.nil ?_
            replace h := some_in h
            subst h
            exact To.meet 0 rfl (.same rfl (.same rfl (.same rfl (.same rfl (.same rfl (.same rfl (.same rfl (.same rfl (.same rfl (.same rfl (.same rfl (.same rfl (.same rfl (.same rfl (.same rfl (.same rfl (.same rfl (.same rfl .nil)))))))))))))))))) (hm ())
        · replace h := cond_f hc h
          refine Wp.exit ?_
          refine To.exit ?_
          replace h := some_in h
          subst h
          exact To.leaveG () 0 rfl (by simp) rfl (.same rfl (.same rfl (.same rfl (.same rfl (.same rfl (.same rfl (.same rfl (.same rfl (.same rfl (.same rfl (.same rfl (.same rfl (.same rfl .nil)))))))))))))
      · clear hl
        refine To.bexit ?_
        refine To.next ?_
        refine Wp.reg ?_
        refine Sq.v (r_move (look_t rfl)) rfl rfl rfl ?_
        refine Sq.v (r_load (i := 0) (Lens.id T_cube_Cube) (r := e2.2.2) ty28 (look_t rfl) rfl rfl rfl) rfl rfl rfl ?_
        refine Sq.v (r_bsl (r := [e2.2.2]) Try.underlying31 ty28 zr28 rfl rfl (.cons (by simp) (look_t rfl) (.nil))) rfl rfl rfl ?_
        obtain ⟨y1, hy1, h⟩ := bind_some h
        refine Sq.app (i := 1) Try.underlying31 ty28 zr28 (bytes := 128) (by kernel_rfl) (look_t rfl) rfl (look_t rfl) hy1 rfl fun key1 cap1 => ?_
        refine Sq.v (r_asg (look_t rfl)) rfl rfl rfl ?_
        refine Sq.nil ?_
        refine To.bnorm ?_
        refine To.next ?_
        refine Wp.reg ?_
        refine Sq.v (r_move (look_t rfl)) rfl rfl rfl ?_
        refine Sq.v (r_add (look_t rfl) (look_int 2)) rfl rfl rfl ?_
        refine Sq.v (r_asg (look_t rfl)) rfl rfl rfl ?_
        refine Sq.nil ?_
        replace h := some_in h
        subst h
        exact To.roundG (key1, cap1) 1 rfl (.same rfl (.same rfl (.same rfl (.same rfl (.same rfl .nil)))))
    · replace h := cond_f hc h
      refine Wp.exit ?_
      refine To.exit ?_
      replace h := some_in h
      subst h
      exact To.leaveG (g1.1, g1.2) 0 rfl (by simp) rfl (.same rfl (.same rfl (.same rfl (.same rfl (.same rfl (.same rfl .nil))))))
  · clear hl
    refine To.bexit ?_
    refine To.next ?_
    refine Wp.seq ?_
    refine Wp.reg ?_
    refine Sq.v (r_move (look_t rfl)) rfl rfl rfl ?_
    refine Sq.v (r_asg (look_t rfl)) rfl rfl rfl ?_
    refine Sq.nil ?_
    refine To.next ?_
    refine Wp.ret ?_
    refine To.freeze (α := T_cube_Cube) 0 4 rfl rfl ?_
    replace h := some_in h
    subst h
    exact To.end1 rfl (rv_t rfl)
set_option maxHeartbeats 2000000 in
theorem Co_law26_made {x0 : List (BitVec 16)} {x1 : Int}  {r : (List T_cube_Cube)} (h : L_law26_made x0 x1 = some r) : MeetsO Try.prog 32 [VP.of (x0), VP.of (x1)] [] (δ := (Option Nat × Nat)) (fun d => VP.eq (slv d.1 (r).length d.2)) (fun d => [⟨d.1, .row 28 (r : List T_cube_Cube) d.2⟩]) := by
  unfold L_law26_made at h
  refine MeetsO.of Try.func32 rfl Try.ntmps32 rfl fun W A => ?_
  refine Wp.seq ?_
  refine Wp.reg ?_
  refine Sq.own (α := T_cube_Cube) 28 ?_
  refine Sq.v (r_asg look_own) rfl rfl rfl ?_
  refine Sq.nil ?_
  refine To.next ?_
  refine Wp.seq ?_
  refine Wp.reg ?_
  refine Sq.own (α := T_cube_Cube) 28 ?_
  refine Sq.v (r_asg look_own) rfl rfl rfl ?_
  refine Sq.nil ?_
  refine To.next ?_
  refine Wp.seq ?_
  refine Wp.seq ?_
  refine Wp.reg ?_
  refine Sq.v (r_asg (look_int 0)) rfl rfl rfl ?_
  refine Sq.nil ?_
  refine To.next ?_
  refine Wp.block ?_
  obtain ⟨e1, hl, h⟩ := bind_some h
  refine Wp.loopG (σ := Int × (List T_cube_Cube)) (ε := (Int × Bool × (List T_cube_Cube))) (γ := (Option Nat × Nat)) (δ := (Option Nat × Nat)) hl (fun s1 g1 => [(0, VP.of (x0)), (1, VP.of (x1)), (4, VP.eq (slv none ([] : List T_cube_Cube).length 0)), (5, VP.eq (slv g1.1 s1.2.length g1.2)), (6, VP.of (s1.1))]) (fun s1 g1 => [⟨g1.1, .row 28 (s1.2 : List T_cube_Cube) g1.2⟩, ⟨none, .row 28 (([] : List T_cube_Cube) : List T_cube_Cube) 0⟩]) (fun q1 => Exit.exit 0) (fun q1 g1 => [(0, VP.of (x0)), (1, VP.of (x1)), (4, VP.eq (slv none ([] : List T_cube_Cube).length 0)), (5, VP.eq (slv g1.1 q1.2.2.length g1.2)), (6, VP.of (q1.1)), (24, VP.of (q1.2.1))]) (fun q1 g1 => [⟨g1.1, .row 28 (q1.2.2 : List T_cube_Cube) g1.2⟩, ⟨none, .row 28 (([] : List T_cube_Cube) : List T_cube_Cube) 0⟩]) (none, 0) rfl (.same rfl (.same rfl (.same rfl (.same rfl (.same rfl .nil))))) (fun s1 r h g1 => ?_) (fun g1 => ?_)
  · clear hl
    refine Wp.seq ?_
    refine Wp.seq ?_
    refine Wp.reg ?_
    refine Sq.v (r_move (look_t rfl)) rfl rfl rfl ?_
    refine Sq.v (r_add (look_t rfl) (look_int 1)) rfl rfl rfl ?_
    refine Sq.v (r_move (look_t rfl)) rfl rfl rfl ?_
    refine Sq.v (r_len Try.underlying58 (look_t rfl)) rfl rfl rfl ?_
    refine Sq.v (r_lss (look_t rfl) (look_t rfl)) rfl rfl rfl ?_
    refine Sq.v (r_move (look_t rfl)) rfl rfl rfl ?_
    refine Sq.g (fun hb => r_move (look_t rfl)) rfl rfl rfl rfl rfl ?_
    refine Sq.g (fun hb => r_lenO (i := 0) Try.underlying31 (look_tc rfl hb) rfl rfl) rfl rfl rfl rfl rfl ?_
    refine Sq.g (fun hb => r_move (look_t rfl)) rfl rfl rfl rfl rfl ?_
    refine Sq.g (fun hb => r_lss (look_tc rfl hb) (look_tc rfl hb)) rfl rfl rfl rfl rfl ?_
    obtain ⟨z1, hz1, h⟩ := bind_some h
    refine Sq.v ((r_and (look_t rfl) (look_t rfl) (fun h => h)).as (some_in hz1)) rfl rfl rfl ?_
    refine Sq.nil ?_
    refine To.next ?_
    refine Wp.cond (look_t rfl) (fun hc => ?_) (fun hc => ?_)
    · replace h := cond_t hc h
      refine Wp.skip ?_
      refine To.next ?_
      refine Wp.seq ?_
      refine Wp.block ?_
      refine Wp.seq ?_
      obtain ⟨k1, hk1, h⟩ := bind_some h
      obtain ⟨k2, hk2, h⟩ := bind_some h
      obtain ⟨k3, hk3, h⟩ := bind_some h
      refine Wp.draw mixed 17 ((some 27) :: (some 28) :: (some 29) :: (some 30) :: (some 31) :: (some 32) :: (some 33) :: (some 34) :: (some 35) :: (some 36) :: (some 37) :: (some 38) :: (some 39) :: (some 40) :: (some 41) :: (some 42) :: (some 7) :: []) ([] :: [] :: [0, 1] :: [2] :: [3] :: [] :: [] :: [5, 6] :: [7] :: [] :: [] :: [10] :: [9, 11] :: [12] :: [8, 13] :: [14] :: [4] :: []) (.val (VP.of (x0)) :: .val (VP.of (s1.1)) :: .val (VP.ptr (lget x0 k1)) :: .val (VP.of (lget x0 k1)) :: .val (VP.of ((lget x0 k1).setWidth 64)) :: .val (VP.of (x0)) :: .val (VP.of (s1.1)) :: .val (VP.ptr (lget x0 k2)) :: .val (VP.of (lget x0 k2)) :: .val (VP.of (x0)) :: .val (VP.of (s1.1)) :: .val (VP.of (w64 (s1.1 + 1))) :: .val (VP.ptr (lget x0 k3)) :: .val (VP.of (lget x0 k3)) :: .val (VP.of ((lget x0 k2) &&& (lget x0 k3))) :: .val (VP.of (((lget x0 k2) &&& (lget x0 k3)).setWidth 64)) :: .val (VP.of ((lget x0 k1).setWidth 64)) :: []) (false :: false :: false :: false :: false :: false :: false :: false :: false :: false :: false :: false :: false :: false :: false :: false :: false :: []) (by kernel_rfl) rfl rfl rfl (fun ps1 => ⟨fun L' hL => HO.v (r_move (look_t rfl)) rfl, fun L' hL => HO.v (r_move (look_t rfl)) rfl, fun L' hL => HO.v (r_ias (k := k1) Try.underlying58 ty66 (look_t rfl) (look_t rfl) (idx_some hk1)) rfl, fun L' hL => HO.v (r_loadp ty66 (look_t rfl)) rfl, fun L' hL => HO.v (r_c16_64 Try.underlying66 Try.underlying22 (look_t rfl)) rfl, fun L' hL => HO.v (r_move (look_t rfl)) rfl, fun L' hL => HO.v (r_move (look_t rfl)) rfl, fun L' hL => HO.v (r_ias (k := k2) Try.underlying58 ty66 (look_t rfl) (look_t rfl) (idx_some hk2)) rfl, fun L' hL => HO.v (r_loadp ty66 (look_t rfl)) rfl, fun L' hL => HO.v (r_move (look_t rfl)) rfl, fun L' hL => HO.v (r_move (look_t rfl)) rfl, fun L' hL => HO.v (r_add (look_t rfl) (look_int 1)) rfl, fun L' hL => HO.v (r_ias (k := k3) Try.underlying58 ty66 (look_t rfl) (look_t rfl) (idx_some hk3)) rfl, fun L' hL => HO.v (r_loadp ty66 (look_t rfl)) rfl, fun L' hL => HO.v (r_and16 (look_t rfl) (look_t rfl)) rfl, fun L' hL => HO.v (r_c16_64 Try.underlying66 Try.underlying22 (look_t rfl)) rfl, fun L' hL => HO.v (r_asg (look_t rfl)) rfl, trivial⟩) fun ps1 => ?_
      refine Sq.v (r_asg (look_t rfl)) rfl rfl rfl ?_
      refine Sq.nil ?_
      refine To.next ?_
      refine Wp.seq ?_
      refine Wp.reg ?_
      refine Sq.alloc zr28 rfl fun p1 => ?_
      refine Sq.nil ?_
      refine To.next ?_
      refine Wp.seq ?_
      refine Wp.seq ?_
      refine Wp.reg ?_
      refine Sq.v (r_bsl (r := [126#64, 64#64, 0#64, 60#64]) Try.underlying118 ty117 zr117 rfl rfl (.cons (by simp) (look_u64 126 rfl) (.cons (by simp) (look_u64 64 rfl) (.cons (by simp) (look_u64 0 rfl) (.cons (by simp) (look_u64 60 rfl) (.nil)))))) rfl rfl rfl ?_
      refine Sq.v (r_len Try.underlying118 (look_t rfl)) rfl rfl rfl ?_
      refine Sq.v (r_move (look_int 0)) rfl rfl rfl ?_
      refine Sq.nil ?_
      refine To.next ?_
      refine Wp.block ?_
      obtain ⟨e2, hl, h⟩ := bind_some h
      refine Wp.loopG (σ := Int × T_cube_Cube) (ε := (Int × Bool × T_cube_Cube)) (γ := Unit) (δ := Unit) hl (fun s2 g2 => [(0, VP.of (x0)), (1, VP.of (x1)), (4, VP.eq (slv none ([] : List T_cube_Cube).length 0)), (5, VP.eq (slv g1.1 s1.2.length g1.2)), (6, VP.of (s1.1)), (7, VP.of ((lget x0 k1).setWidth 64)), (8, VP.of (((lget x0 k2) &&& (lget x0 k3)).setWidth 64)), (9, VP.eq (.pointer (some ⟨p1, 0, none⟩))), (24, VP.of (z1)), (43, VP.of ([126#64, 64#64, 0#64, 60#64])), (44, VP.of ([126#64, 64#64, 0#64, 60#64].length : Int)), (45, VP.of (s2.1))]) (fun s2 g2 => [⟨some p1, .var (s2.2 : T_cube_Cube)⟩, ⟨g1.1, .row 28 (s1.2 : List T_cube_Cube) g1.2⟩, ⟨none, .row 28 (([] : List T_cube_Cube) : List T_cube_Cube) 0⟩]) (fun q2 => Exit.exit 2) (fun q2 g2 => [(0, VP.of (x0)), (1, VP.of (x1)), (4, VP.eq (slv none ([] : List T_cube_Cube).length 0)), (5, VP.eq (slv g1.1 s1.2.length g1.2)), (6, VP.of (s1.1)), (7, VP.of ((lget x0 k1).setWidth 64)), (8, VP.of (((lget x0 k2) &&& (lget x0 k3)).setWidth 64)), (9, VP.eq (.pointer (some ⟨p1, 0, none⟩))), (24, VP.of (z1)), (43, VP.of ([126#64, 64#64, 0#64, 60#64])), (44, VP.of ([126#64, 64#64, 0#64, 60#64].length : Int)), (45, VP.of (q2.1)), (46, VP.of (q2.2.1))]) (fun q2 g2 => [⟨some p1, .var (q2.2.2 : T_cube_Cube)⟩, ⟨g1.1, .row 28 (s1.2 : List T_cube_Cube) g1.2⟩, ⟨none, .row 28 (([] : List T_cube_Cube) : List T_cube_Cube) 0⟩]) () rfl (.same rfl (.same rfl (.same rfl (.same rfl (.same rfl (.same rfl (.same rfl (.same rfl (.same rfl (.same rfl (.same rfl (.same rfl .nil)))))))))))) (fun s2 r h g2 => ?_) (fun g2 => ?_)
      · clear hl
        refine Wp.seq ?_
        refine Wp.reg ?_
        refine Sq.v (r_lss (look_t rfl) (look_t rfl)) rfl rfl rfl ?_
        refine Sq.nil ?_
        refine To.next ?_
        refine Wp.seq ?_
        refine Wp.cond (look_t rfl) (fun hc => ?_) (fun hc => ?_)
        · replace h := cond_t hc h
          refine Wp.skip ?_
          refine To.next ?_
          refine Wp.seq ?_
          refine Wp.block ?_
          refine Wp.seq ?_
          refine Wp.reg ?_
          refine Sq.v (r_move (look_t rfl)) rfl rfl rfl ?_
          obtain ⟨k4, hk4, h⟩ := bind_some h
          refine Sq.v (r_ias (k := k4) Try.underlying118 ty117 (look_t rfl) (look_t rfl) (idx_some hk4)) rfl rfl rfl ?_
          refine Sq.v (r_loadp ty117 (look_t rfl)) rfl rfl rfl ?_
          refine Sq.v (r_asg (look_t rfl)) rfl rfl rfl ?_
          refine Sq.v (r_asg (look_t rfl)) rfl rfl rfl ?_
          refine Sq.nil ?_
          refine To.next ?_
          refine Wp.seq ?_
          refine Wp.reg ?_
          refine Sq.v (r_move (look_t rfl)) rfl rfl rfl ?_
          refine Sq.v (r_move (look_t rfl)) rfl rfl rfl ?_
          refine Sq.v (r_mul (look_int 2) (look_t rfl)) rfl rfl rfl ?_
          refine Sq.v (r_ci64 Try.underlying3 Try.underlying117 (look_t rfl)) rfl rfl rfl ?_
          obtain ⟨z2, hz2, h⟩ := bind_some h
          refine Sq.v ((r_shr64 (look_t rfl) (look_t rfl)).as (some_in hz2)) rfl rfl rfl ?_
          refine Sq.v (r_and64 (look_t rfl) (look_u64 3 rfl)) rfl rfl rfl ?_
          refine Sq.v (r_move (look_t rfl)) rfl rfl rfl ?_
          refine Sq.v (r_move (look_t rfl)) rfl rfl rfl ?_
          refine Sq.v (r_mul (look_int 2) (look_t rfl)) rfl rfl rfl ?_
          refine Sq.v (r_ci64 Try.underlying3 Try.underlying117 (look_t rfl)) rfl rfl rfl ?_
          obtain ⟨z3, hz3, h⟩ := bind_some h
          refine Sq.v ((r_shr64 (look_t rfl) (look_t rfl)).as (some_in hz3)) rfl rfl rfl ?_
          refine Sq.v (r_and64 (look_t rfl) (look_u64 3 rfl)) rfl rfl rfl ?_
          refine Sq.v (r_asg (look_t rfl)) rfl rfl rfl ?_
          refine Sq.v (r_asg (look_t rfl)) rfl rfl rfl ?_
          refine Sq.nil ?_
          refine To.next ?_
          refine Wp.seq ?_
          refine Wp.reg ?_
          refine Sq.v (r_move (look_t rfl)) rfl rfl rfl ?_
          refine Sq.v (r_geq64 (look_t rfl) (look_u64 64 rfl)) rfl rfl rfl ?_
          refine Sq.nil ?_
          refine To.next ?_
          obtain ⟨m1, hm1, h⟩ := bind_some h
          refine Wp.condM (γ := Unit) (fun g3 => [(0, VP.of (x0)), (1, VP.of (x1)), (4, VP.eq (slv none ([] : List T_cube_Cube).length 0)), (5, VP.eq (slv g1.1 s1.2.length g1.2)), (6, VP.of (s1.1)), (7, VP.of ((lget x0 k1).setWidth 64)), (8, VP.of (((lget x0 k2) &&& (lget x0 k3)).setWidth 64)), (9, VP.eq (.pointer (some ⟨p1, 0, none⟩))), (10, VP.of (s2.1)), (11, VP.of (lget [126#64, 64#64, 0#64, 60#64] k4)), (12, VP.of (z2 &&& (3#64))), (13, VP.of (z3 &&& (3#64))), (24, VP.of (z1)), (43, VP.of ([126#64, 64#64, 0#64, 60#64])), (44, VP.of ([126#64, 64#64, 0#64, 60#64].length : Int)), (45, VP.of (s2.1)), (46, VP.of (decide (s2.1 < ([126#64, 64#64, 0#64, 60#64].length : Int)))), (63, VP.of (decide ((lget [126#64, 64#64, 0#64, 60#64] k4) ≥ (64#64))))]) (fun g3 => [⟨some p1, .var (m1 : T_cube_Cube)⟩, ⟨g1.1, .row 28 (s1.2 : List T_cube_Cube) g1.2⟩, ⟨none, .row 28 (([] : List T_cube_Cube) : List T_cube_Cube) 0⟩]) (look_t rfl) (fun g3 => ?_) (fun hm hc => ?_) (fun hm hc => ?_)
          · clear hm1
            refine To.bnorm ?_
            refine To.next ?_
            refine Wp.reg ?_
            refine Sq.v (r_add (look_t rfl) (look_int 1)) rfl rfl rfl ?_
            refine Sq.v (r_move (look_t rfl)) rfl rfl rfl ?_
            refine Sq.nil ?_
            replace h := some_in h
            subst h
            exact To.roundG () 0 rfl (.same rfl (.same rfl (.same rfl (.same rfl (.same rfl (.same rfl (.same rfl (.same rfl (.same rfl (.same rfl (.same rfl (.same rfl .nil))))))))))))
          · have h := cond_t hc hm1
            refine Wp.reg ?_
            refine Sq.v (r_move (look_t rfl)) rfl rfl rfl ?_
            refine Sq.v (r_move (look_t rfl)) rfl rfl rfl ?_
            refine Sq.v (r_move (look_t rfl)) rfl rfl rfl ?_
            refine Sq.v (r_move (look_t rfl)) rfl rfl rfl ?_
            refine Sq.v (r_sub64 (look_t rfl) (look_u64 64 rfl)) rfl rfl rfl ?_
            obtain ⟨z4, hz4, h⟩ := bind_some h
            refine Sq.v ((r_shl64 (look_t rfl) (look_t rfl)).as (some_in hz4)) rfl rfl rfl ?_
            refine Sq.v (r_move (look_t rfl)) rfl rfl rfl ?_
            refine Sq.v (r_move (look_t rfl)) rfl rfl rfl ?_
            refine Sq.v (r_sub64 (look_t rfl) (look_u64 64 rfl)) rfl rfl rfl ?_
            obtain ⟨z5, hz5, h⟩ := bind_some h
            refine Sq.v ((r_shl64 (look_t rfl) (look_t rfl)).as (some_in hz5)) rfl rfl rfl ?_
            refine Sq.v (r_fa fd28_1 (look_t rfl)) rfl rfl rfl ?_
            obtain ⟨k5, hk5, h⟩ := bind_some h
            refine Sq.v (r_ia (k := k5) ar26 (look_t rfl) (look_t rfl) (idx_some hk5)) rfl rfl rfl ?_
            refine Sq.v (r_fa fd24_0 (look_t rfl)) rfl rfl rfl ?_
            obtain ⟨z6, hz6, h⟩ := bind_some h
            refine Sq.store (i := 0) ((((Lens.id T_cube_Cube).comp le_T_cube_Cube_Mask).comp (Lens.idx (α := T_api_Value) 4 k5 (idx_some hk5).1)).comp le_T_api_Value_Hi) (v := (z4 : BitVec 64)) (b' := (z6 : T_cube_Cube)) ty22 (look_t rfl) (look_t rfl) rfl rfl (some_in hz6) ?_
            refine Sq.v (r_fa fd28_0 (look_t rfl)) rfl rfl rfl ?_
            obtain ⟨k6, hk6, h⟩ := bind_some h
            refine Sq.v (r_ia (k := k6) ar26 (look_t rfl) (look_t rfl) (idx_some hk6)) rfl rfl rfl ?_
            refine Sq.v (r_fa fd24_0 (look_t rfl)) rfl rfl rfl ?_
            obtain ⟨z7, hz7, h⟩ := bind_some h
            refine Sq.store (i := 0) ((((Lens.id T_cube_Cube).comp le_T_cube_Cube_Value).comp (Lens.idx (α := T_api_Value) 4 k6 (idx_some hk6).1)).comp le_T_api_Value_Hi) (v := (z5 : BitVec 64)) (b' := (z7 : T_cube_Cube)) ty22 (look_t rfl) (look_t rfl) rfl rfl (some_in hz7) ?_
            refine Sq.nil ?_
            replace h := some_in h
            subst h
            exact To.meet 0 rfl (.same rfl (.same rfl (.same rfl (.same rfl (.same rfl (.same rfl (.same rfl (.same rfl (.same rfl (.same rfl (.same rfl (.same rfl (.same rfl (.same rfl (.same rfl (.same rfl (.same rfl (.same rfl .nil)))))))))))))))))) (hm ())
          · have h := cond_f hc hm1
            refine Wp.reg ?_
            refine Sq.v (r_move (look_t rfl)) rfl rfl rfl ?_
            refine Sq.v (r_move (look_t rfl)) rfl rfl rfl ?_
            refine Sq.v (r_move (look_t rfl)) rfl rfl rfl ?_
            refine Sq.v (r_move (look_t rfl)) rfl rfl rfl ?_
            refine Sq.v (r_shl64 (look_t rfl) (look_t rfl)) rfl rfl rfl ?_
            refine Sq.v (r_move (look_t rfl)) rfl rfl rfl ?_
            refine Sq.v (r_move (look_t rfl)) rfl rfl rfl ?_
            refine Sq.v (r_shl64 (look_t rfl) (look_t rfl)) rfl rfl rfl ?_
            refine Sq.v (r_fa fd28_1 (look_t rfl)) rfl rfl rfl ?_
            obtain ⟨k7, hk7, h⟩ := bind_some h
            refine Sq.v (r_ia (k := k7) ar26 (look_t rfl) (look_t rfl) (idx_some hk7)) rfl rfl rfl ?_
            refine Sq.v (r_fa fd24_1 (look_t rfl)) rfl rfl rfl ?_
            obtain ⟨z8, hz8, h⟩ := bind_some h
            refine Sq.store (i := 0) ((((Lens.id T_cube_Cube).comp le_T_cube_Cube_Mask).comp (Lens.idx (α := T_api_Value) 4 k7 (idx_some hk7).1)).comp le_T_api_Value_Lo) (v := ((z2 &&& (3#64)) <<< (lget [126#64, 64#64, 0#64, 60#64] k4).toNat : BitVec 64)) (b' := (z8 : T_cube_Cube)) ty22 (look_t rfl) (look_t rfl) rfl rfl (some_in hz8) ?_
            refine Sq.v (r_fa fd28_0 (look_t rfl)) rfl rfl rfl ?_
            obtain ⟨k8, hk8, h⟩ := bind_some h
            refine Sq.v (r_ia (k := k8) ar26 (look_t rfl) (look_t rfl) (idx_some hk8)) rfl rfl rfl ?_
            refine Sq.v (r_fa fd24_1 (look_t rfl)) rfl rfl rfl ?_
            obtain ⟨z9, hz9, h⟩ := bind_some h
            refine Sq.store (i := 0) ((((Lens.id T_cube_Cube).comp le_T_cube_Cube_Value).comp (Lens.idx (α := T_api_Value) 4 k8 (idx_some hk8).1)).comp le_T_api_Value_Lo) (v := ((z3 &&& (3#64)) <<< (lget [126#64, 64#64, 0#64, 60#64] k4).toNat : BitVec 64)) (b' := (z9 : T_cube_Cube)) ty22 (look_t rfl) (look_t rfl) rfl rfl (some_in hz9) ?_
            refine Sq.nil ?_
            replace h := some_in h
            subst h
            exact To.meet 0 rfl (.same rfl (.same rfl (.same rfl (.same rfl (.same rfl (.same rfl (.same rfl (.same rfl (.same rfl (.same rfl (.same rfl (.same rfl (.same rfl (.same rfl (.same rfl (.same rfl (.same rfl (.same rfl .nil)))))))))))))))))) (hm ())
        · replace h := cond_f hc h
          refine Wp.exit ?_
          refine To.exit ?_
          replace h := some_in h
          subst h
          exact To.leaveG () 0 rfl (by simp) rfl (.same rfl (.same rfl (.same rfl (.same rfl (.same rfl (.same rfl (.same rfl (.same rfl (.same rfl (.same rfl (.same rfl (.same rfl (.same rfl .nil)))))))))))))
      · clear hl
        refine To.bexit ?_
        refine To.next ?_
        refine Wp.reg ?_
        refine Sq.v (r_move (look_t rfl)) rfl rfl rfl ?_
        refine Sq.v (r_load (i := 0) (Lens.id T_cube_Cube) (r := e2.2.2) ty28 (look_t rfl) rfl rfl rfl) rfl rfl rfl ?_
        refine Sq.v (r_bsl (r := [e2.2.2]) Try.underlying31 ty28 zr28 rfl rfl (.cons (by simp) (look_t rfl) (.nil))) rfl rfl rfl ?_
        obtain ⟨y1, hy1, h⟩ := bind_some h
        refine Sq.app (i := 1) Try.underlying31 ty28 zr28 (bytes := 128) (by kernel_rfl) (look_t rfl) rfl (look_t rfl) hy1 rfl fun key1 cap1 => ?_
        refine Sq.v (r_asg (look_t rfl)) rfl rfl rfl ?_
        refine Sq.nil ?_
        refine To.bnorm ?_
        refine To.next ?_
        refine Wp.reg ?_
        refine Sq.v (r_move (look_t rfl)) rfl rfl rfl ?_
        refine Sq.v (r_add (look_t rfl) (look_int 2)) rfl rfl rfl ?_
        refine Sq.v (r_asg (look_t rfl)) rfl rfl rfl ?_
        refine Sq.nil ?_
        replace h := some_in h
        subst h
        exact To.roundG (key1, cap1) 1 rfl (.same rfl (.same rfl (.same rfl (.same rfl (.same rfl .nil)))))
    · replace h := cond_f hc h
      refine Wp.exit ?_
      refine To.exit ?_
      replace h := some_in h
      subst h
      exact To.leaveG (g1.1, g1.2) 0 rfl (by simp) rfl (.same rfl (.same rfl (.same rfl (.same rfl (.same rfl (.same rfl .nil))))))
  · clear hl
    refine To.bexit ?_
    refine To.next ?_
    refine Wp.seq ?_
    refine Wp.reg ?_
    refine Sq.v (r_move (look_t rfl)) rfl rfl rfl ?_
    refine Sq.v (r_asg (look_t rfl)) rfl rfl rfl ?_
    refine Sq.nil ?_
    refine To.next ?_
    refine Wp.ret ?_
    refine To.bring 0 rfl ?_
    replace h := some_in h
    subst h
    exact To.endO1 (g1.1, g1.2) (.cons_cons _ (List.nil_sublist _)) rfl rfl (rvo_t rfl)
set_option maxHeartbeats 2000000 in
theorem C_slices_Clone_cube_Cube {x0 : List T_cube_Cube}  {r : (List T_cube_Cube)} (h : L_slices_Clone_cube_Cube x0 = some r) : Meets Try.prog 92 [VP.of (x0)] (VP.of (r)) := by
  unfold L_slices_Clone_cube_Cube at h
  refine Meets.of Try.func92 rfl Try.ntmps92 rfl fun W A => ?_
  refine Wp.seq ?_
  refine Wp.reg ?_
  refine Sq.v (r_asg (look_nil (α := T_cube_Cube))) rfl rfl rfl ?_
  refine Sq.nil ?_
  refine To.next ?_
  refine Wp.seq ?_
  refine Wp.seq ?_
  refine Wp.reg ?_
  refine Sq.v (r_move (look_t rfl)) rfl rfl rfl ?_
  refine Sq.v (r_nil Try.underlying31 (look_t rfl)) rfl rfl rfl ?_
  refine Sq.nil ?_
  refine To.next ?_
  refine Wp.condN (look_t rfl) (fun hx => ?_) ?_
  · subst hx; replace h := clone_nil h; subst h
    have h : some ([] : List T_cube_Cube) = some [] := rfl
    refine Wp.seq ?_
    refine Wp.reg ?_
    refine Sq.v (r_asg (look_nil (α := T_cube_Cube))) rfl rfl rfl ?_
    refine Sq.nil ?_
    refine To.next ?_
    refine Wp.ret ?_
    refine To.ret ?_
    replace h := some_in h
    clear h
    exact To.end1 rfl (rv_t rfl)
  · skip
    refine Wp.skip ?_
    refine To.next ?_
    refine Wp.seq ?_
    refine Wp.reg ?_
    refine Sq.bslO (α := T_cube_Cube) (r := ([] : List T_cube_Cube)) Try.underlying31 ty28 zr28 rfl rfl (.nil) rfl fun key1 => ?_
    refine Sq.v (r_move (look_t rfl)) rfl rfl rfl ?_
    obtain ⟨y1, hy1, h⟩ := bind_some h
    refine Sq.app (i := 0) Try.underlying31 ty28 zr28 (bytes := 128) (by kernel_rfl) (look_t rfl) rfl (look_t rfl) hy1 rfl fun key2 cap1 => ?_
    refine Sq.v (r_asg (look_t rfl)) rfl rfl rfl ?_
    refine Sq.nil ?_
    refine To.next ?_
    refine Wp.ret ?_
    refine To.freeze (α := T_cube_Cube) 0 2 rfl rfl ?_
    replace h := some_in h
    subst h
    exact To.end1 rfl (rv_t rfl)
end Go.Proofs.Ytabodolbdalimaa
