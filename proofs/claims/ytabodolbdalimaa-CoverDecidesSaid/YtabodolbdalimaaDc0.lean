/-
  Printed by the decompiler (dec.py) out of the seat's translation. Each function meets its functional program. Conditions: none.
-/
import Derived.Test.YtabodolbdalimaaDl
namespace Go.Proofs.Ytabodolbdalimaa
open Go Gv
set_option linter.unusedVariables false
set_option linter.unusedSimpArgs false
set_option maxRecDepth 100000
set_option maxHeartbeats 2000000 in
theorem C_ref01_Read {x0 : T_api_Value}  {r : (Vector Bool 128)} (h : L_ref01_Read x0 = some r) : Meets Try.prog 62 [VP.of (x0)] (VP.of (r)) := by
  unfold L_ref01_Read at h
  refine Meets.of Try.func62 rfl Try.ntmps62 rfl fun W A => ?_
  refine Wp.seq ?_
  refine Wp.reg ?_
  refine Sq.box (z := (x0 : T_api_Value)) (look_t rfl) rfl fun p1 => ?_
  refine Sq.alloc zr111 rfl fun p2 => ?_
  refine Sq.nil ?_
  refine To.next ?_
  refine Wp.seq ?_
  refine Wp.reg ?_
  refine Sq.alloc zr111 rfl fun p3 => ?_
  refine Sq.nil ?_
  refine To.next ?_
  refine Wp.seq ?_
  refine Wp.seq ?_
  refine Wp.reg ?_
  refine Sq.v (r_asg (look_int 0)) rfl rfl rfl ?_
  refine Sq.nil ?_
  refine To.next ?_
  refine Wp.block ?_
  obtain ⟨e1, hl, h⟩ := bind_some h
  refine Wp.loopG (σ := Int × (Vector Bool 128)) (ε := (Int × Bool × (Vector Bool 128))) (γ := Unit) (δ := Unit) hl (fun s1 g1 => [(0, VP.of (x0)), (1, VP.eq (.pointer (some ⟨p1, 0, none⟩))), (2, VP.eq (.pointer (some ⟨p2, 0, none⟩))), (3, VP.eq (.pointer (some ⟨p3, 0, none⟩))), (4, VP.of (s1.1))]) (fun s1 g1 => [⟨some p3, .var (s1.2 : Vector Bool 128)⟩, ⟨some p2, .var ((default : Vector Bool 128) : Vector Bool 128)⟩, ⟨some p1, .var (x0 : T_api_Value)⟩]) (fun q1 => Exit.exit 0) (fun q1 g1 => [(0, VP.of (x0)), (1, VP.eq (.pointer (some ⟨p1, 0, none⟩))), (2, VP.eq (.pointer (some ⟨p2, 0, none⟩))), (3, VP.eq (.pointer (some ⟨p3, 0, none⟩))), (4, VP.of (q1.1)), (6, VP.of (q1.2.1))]) (fun q1 g1 => [⟨some p3, .var (q1.2.2 : Vector Bool 128)⟩, ⟨some p2, .var ((default : Vector Bool 128) : Vector Bool 128)⟩, ⟨some p1, .var (x0 : T_api_Value)⟩]) () rfl (.same rfl (.same rfl (.same rfl (.same rfl (.same rfl .nil))))) (fun s1 r h g1 => ?_) (fun g1 => ?_)
  · clear hl
    refine Wp.seq ?_
    refine Wp.seq ?_
    refine Wp.reg ?_
    refine Sq.v (r_move (look_t rfl)) rfl rfl rfl ?_
    refine Sq.v (r_lss (look_t rfl) (look_int 64)) rfl rfl rfl ?_
    refine Sq.nil ?_
    refine To.next ?_
    refine Wp.cond (look_t rfl) (fun hc => ?_) (fun hc => ?_)
    · replace h := cond_t hc h
      refine Wp.skip ?_
      refine To.next ?_
      refine Wp.seq ?_
      refine Wp.block ?_
      obtain ⟨k1, hk1, h⟩ := bind_some h
      obtain ⟨z1, hz1, h⟩ := bind_some h
      refine Wp.draw mixed 19 ((some 9) :: (some 10) :: (some 11) :: (some 12) :: (some 13) :: (some 14) :: (some 15) :: (some 16) :: (some 17) :: (some 18) :: (some 19) :: (some 20) :: (some 21) :: (some 22) :: (some 23) :: (some 24) :: (some 25) :: (some 26) :: none :: []) ([] :: [] :: [1] :: [] :: [3] :: [] :: [5] :: [4, 6] :: [7] :: [8] :: [] :: [10] :: [] :: [12] :: [11, 13] :: [14] :: [15] :: [0] :: [9, 17] :: []) (.val (VP.of (s1.1)) :: .val (VP.of (s1.1)) :: .val (VP.of (w64 (s1.1 + 64))) :: .val (VP.eq (.pointer (some ⟨p1, 0 + 1, none⟩))) :: .val (VP.of (x0.f_Lo)) :: .val (VP.of (s1.1)) :: .val (VP.of (BitVec.ofInt 64 s1.1)) :: .val (VP.of (x0.f_Lo >>> (BitVec.ofInt 64 s1.1).toNat)) :: .val (VP.of ((x0.f_Lo >>> (BitVec.ofInt 64 s1.1).toNat) &&& (1#64))) :: .val (VP.of (((x0.f_Lo >>> (BitVec.ofInt 64 s1.1).toNat) &&& (1#64)) == (1#64))) :: .val (VP.eq (.pointer (some ⟨p1, 0 + 0, none⟩))) :: .val (VP.of (x0.f_Hi)) :: .val (VP.of (s1.1)) :: .val (VP.of (BitVec.ofInt 64 s1.1)) :: .val (VP.of (x0.f_Hi >>> (BitVec.ofInt 64 s1.1).toNat)) :: .val (VP.of ((x0.f_Hi >>> (BitVec.ofInt 64 s1.1).toNat) &&& (1#64))) :: .val (VP.of (((x0.f_Hi >>> (BitVec.ofInt 64 s1.1).toNat) &&& (1#64)) == (1#64))) :: .val (VP.eq (.pointer (some ⟨p3, 0 + k1 * 1, none⟩))) :: .sto 0 (.var (z1 : Vector Bool 128)) :: []) (false :: false :: false :: false :: false :: false :: false :: false :: false :: false :: false :: false :: false :: false :: false :: false :: false :: false :: true :: []) (by kernel_rfl) rfl rfl rfl (fun ps1 => ⟨fun L' hL => HO.v (r_move (look_t rfl)) rfl, fun L' hL => HO.v (r_move (look_t rfl)) rfl, fun L' hL => HO.v (r_add (look_t rfl) (look_int 64)) rfl, fun L' hL => HO.v (r_fa fd24_1 (look_t rfl)) rfl, fun L' hL => HO.v (r_load (i := 2) ((Lens.id T_api_Value).comp le_T_api_Value_Lo) (r := x0.f_Lo) ty22 (look_t rfl) (hL _ _ rfl (by kernel_rfl)) rfl rfl) rfl, fun L' hL => HO.v (r_move (look_t rfl)) rfl, fun L' hL => HO.v (r_ci64 Try.underlying3 Try.underlying117 (look_t rfl)) rfl, fun L' hL => HO.v (r_shr64 (look_t rfl) (look_t rfl)) rfl, fun L' hL => HO.v (r_and64 (look_t rfl) (look_u64 1 rfl)) rfl, fun L' hL => HO.v (r_eql64 (look_t rfl) (look_u64 1 rfl)) rfl, fun L' hL => HO.v (r_fa fd24_0 (look_t rfl)) rfl, fun L' hL => HO.v (r_load (i := 2) ((Lens.id T_api_Value).comp le_T_api_Value_Hi) (r := x0.f_Hi) ty22 (look_t rfl) (hL _ _ rfl (by kernel_rfl)) rfl rfl) rfl, fun L' hL => HO.v (r_move (look_t rfl)) rfl, fun L' hL => HO.v (r_ci64 Try.underlying3 Try.underlying117 (look_t rfl)) rfl, fun L' hL => HO.v (r_shr64 (look_t rfl) (look_t rfl)) rfl, fun L' hL => HO.v (r_and64 (look_t rfl) (look_u64 1 rfl)) rfl, fun L' hL => HO.v (r_eql64 (look_t rfl) (look_u64 1 rfl)) rfl, fun L' hL => HO.v (r_ia (k := k1) ar111 (look_t rfl) (look_t rfl) (idx_some hk1)) rfl, ⟨_, _, rfl, fun L' hL => so_var (i := 0) ((Lens.id (Vector Bool 128)).comp (Lens.idx (α := Bool) 128 k1 (idx_some hk1).1)) (v := (((x0.f_Lo >>> (BitVec.ofInt 64 s1.1).toNat) &&& (1#64)) == (1#64) : Bool)) (b' := (z1 : Vector Bool 128)) ty4 (look_t rfl) (look_t rfl) (hL _ _ rfl) rfl (some_in hz1)⟩, trivial⟩) fun ps1 => ?_
      obtain ⟨k2, hk2, h⟩ := bind_some h
      refine Sq.v (r_ia (k := k2) ar111 (look_t rfl) (look_t rfl) (idx_some hk2)) rfl rfl rfl ?_
      obtain ⟨z2, hz2, h⟩ := bind_some h
      refine Sq.store (i := 0) ((Lens.id (Vector Bool 128)).comp (Lens.idx (α := Bool) 128 k2 (idx_some hk2).1)) (v := (((x0.f_Hi >>> (BitVec.ofInt 64 s1.1).toNat) &&& (1#64)) == (1#64) : Bool)) (b' := (z2 : Vector Bool 128)) ty4 (look_t rfl) (look_t rfl) rfl rfl (some_in hz2) ?_
      refine Sq.nil ?_
      refine To.bnorm ?_
      refine To.next ?_
      refine Wp.reg ?_
      refine Sq.v (r_move (look_t rfl)) rfl rfl rfl ?_
      refine Sq.v (r_add (look_t rfl) (look_int 1)) rfl rfl rfl ?_
      refine Sq.v (r_asg (look_t rfl)) rfl rfl rfl ?_
      refine Sq.nil ?_
      replace h := some_in h
      subst h
      exact To.roundG () 0 rfl (.same rfl (.same rfl (.same rfl (.same rfl (.same rfl .nil)))))
    · replace h := cond_f hc h
      refine Wp.exit ?_
      refine To.exit ?_
      replace h := some_in h
      subst h
      exact To.leaveG () 0 rfl (by simp) rfl (.same rfl (.same rfl (.same rfl (.same rfl (.same rfl (.same rfl .nil))))))
  · clear hl
    refine To.bexit ?_
    refine To.next ?_
    refine Wp.seq ?_
    refine Wp.reg ?_
    refine Sq.v (r_load (i := 0) (Lens.id (Vector Bool 128)) (r := e1.2.2) ty111 (look_t rfl) rfl rfl rfl) rfl rfl rfl ?_
    refine Sq.store (i := 1) (Lens.id (Vector Bool 128)) (v := (e1.2.2 : Vector Bool 128)) (b' := (e1.2.2 : Vector Bool 128)) ty111 (look_t rfl) (look_t rfl) rfl rfl rfl ?_
    refine Sq.nil ?_
    refine To.next ?_
    refine Wp.ret ?_
    replace h := some_in h
    subst h
    exact To.end1 rfl (rv_c (i := 1) ty111 rfl rfl)
set_option maxHeartbeats 2000000 in
theorem C_ref01_Make {x0 : Vector Bool 128}  {r : T_api_Value} (h : L_ref01_Make x0 = some r) : Meets Try.prog 63 [VP.of (x0)] (VP.of (r)) := by
  unfold L_ref01_Make at h
  refine Meets.of Try.func63 rfl Try.ntmps63 rfl fun W A => ?_
  refine Wp.seq ?_
  refine Wp.reg ?_
  refine Sq.box (z := (x0 : Vector Bool 128)) (look_t rfl) rfl fun p1 => ?_
  refine Sq.alloc zr24 rfl fun p2 => ?_
  refine Sq.nil ?_
  refine To.next ?_
  refine Wp.seq ?_
  refine Wp.reg ?_
  refine Sq.alloc zr24 rfl fun p3 => ?_
  refine Sq.nil ?_
  refine To.next ?_
  refine Wp.seq ?_
  refine Wp.seq ?_
  refine Wp.reg ?_
  refine Sq.v (r_asg (look_int 0)) rfl rfl rfl ?_
  refine Sq.nil ?_
  refine To.next ?_
  refine Wp.block ?_
  obtain ⟨e1, hl, h⟩ := bind_some h
  refine Wp.loopG (σ := Int × T_api_Value) (ε := (Int × Bool × T_api_Value)) (γ := Unit) (δ := Unit) hl (fun s1 g1 => [(0, VP.of (x0)), (1, VP.eq (.pointer (some ⟨p1, 0, none⟩))), (2, VP.eq (.pointer (some ⟨p2, 0, none⟩))), (3, VP.eq (.pointer (some ⟨p3, 0, none⟩))), (4, VP.of (s1.1))]) (fun s1 g1 => [⟨some p3, .var (s1.2 : T_api_Value)⟩, ⟨some p2, .var ((default : T_api_Value) : T_api_Value)⟩, ⟨some p1, .var (x0 : Vector Bool 128)⟩]) (fun q1 => Exit.exit 0) (fun q1 g1 => [(0, VP.of (x0)), (1, VP.eq (.pointer (some ⟨p1, 0, none⟩))), (2, VP.eq (.pointer (some ⟨p2, 0, none⟩))), (3, VP.eq (.pointer (some ⟨p3, 0, none⟩))), (4, VP.of (q1.1)), (6, VP.of (q1.2.1))]) (fun q1 g1 => [⟨some p3, .var (q1.2.2 : T_api_Value)⟩, ⟨some p2, .var ((default : T_api_Value) : T_api_Value)⟩, ⟨some p1, .var (x0 : Vector Bool 128)⟩]) () rfl (.same rfl (.same rfl (.same rfl (.same rfl (.same rfl .nil))))) (fun s1 r h g1 => ?_) (fun g1 => ?_)
  · clear hl
    refine Wp.seq ?_
    refine Wp.seq ?_
    refine Wp.reg ?_
    refine Sq.v (r_move (look_t rfl)) rfl rfl rfl ?_
    refine Sq.v (r_lss (look_t rfl) (look_int 64)) rfl rfl rfl ?_
    refine Sq.nil ?_
    refine To.next ?_
    refine Wp.cond (look_t rfl) (fun hc => ?_) (fun hc => ?_)
    · replace h := cond_t hc h
      refine Wp.skip ?_
      refine To.next ?_
      refine Wp.seq ?_
      refine Wp.block ?_
      refine Wp.seq ?_
      refine Wp.seq ?_
      refine Wp.reg ?_
      refine Sq.v (r_move (look_t rfl)) rfl rfl rfl ?_
      obtain ⟨k1, hk1, h⟩ := bind_some h
      refine Sq.v (r_ia (k := k1) ar111 (look_t rfl) (look_t rfl) (idx_some hk1)) rfl rfl rfl ?_
      refine Sq.v (r_load (i := 2) ((Lens.id (Vector Bool 128)).comp (Lens.idx (α := Bool) 128 k1 (idx_some hk1).1)) (r := vget x0 k1) ty4 (look_t rfl) rfl rfl rfl) rfl rfl rfl ?_
      refine Sq.nil ?_
      refine To.next ?_
      obtain ⟨m1, hm1, h⟩ := bind_some h
      refine Wp.condM (γ := Unit) (fun g2 => [(0, VP.of (x0)), (1, VP.eq (.pointer (some ⟨p1, 0, none⟩))), (2, VP.eq (.pointer (some ⟨p2, 0, none⟩))), (3, VP.eq (.pointer (some ⟨p3, 0, none⟩))), (4, VP.of (s1.1)), (6, VP.of (decide (s1.1 < 64))), (11, VP.of (vget x0 k1))]) (fun g2 => [⟨some p3, .var (m1 : T_api_Value)⟩, ⟨some p2, .var ((default : T_api_Value) : T_api_Value)⟩, ⟨some p1, .var (x0 : Vector Bool 128)⟩]) (look_t rfl) (fun g2 => ?_) (fun hm hc => ?_) (fun hm hc => ?_)
      · clear hm1
        refine To.next ?_
        refine Wp.seq ?_
        refine Wp.reg ?_
        refine Sq.v (r_move (look_t rfl)) rfl rfl rfl ?_
        refine Sq.v (r_add (look_t rfl) (look_int 64)) rfl rfl rfl ?_
        obtain ⟨k2, hk2, h⟩ := bind_some h
        refine Sq.v (r_ia (k := k2) ar111 (look_t rfl) (look_t rfl) (idx_some hk2)) rfl rfl rfl ?_
        refine Sq.v (r_load (i := 2) ((Lens.id (Vector Bool 128)).comp (Lens.idx (α := Bool) 128 k2 (idx_some hk2).1)) (r := vget x0 k2) ty4 (look_t rfl) rfl rfl rfl) rfl rfl rfl ?_
        refine Sq.nil ?_
        refine To.next ?_
        obtain ⟨m2, hm2, h⟩ := bind_some h
        refine Wp.condM (γ := Unit) (fun g3 => [(0, VP.of (x0)), (1, VP.eq (.pointer (some ⟨p1, 0, none⟩))), (2, VP.eq (.pointer (some ⟨p2, 0, none⟩))), (3, VP.eq (.pointer (some ⟨p3, 0, none⟩))), (4, VP.of (s1.1)), (6, VP.of (decide (s1.1 < 64))), (11, VP.of (vget x0 k1)), (22, VP.of (vget x0 k2))]) (fun g3 => [⟨some p3, .var (m2 : T_api_Value)⟩, ⟨some p2, .var ((default : T_api_Value) : T_api_Value)⟩, ⟨some p1, .var (x0 : Vector Bool 128)⟩]) (look_t rfl) (fun g3 => ?_) (fun hm hc => ?_) (fun hm hc => ?_)
        · clear hm2
          refine To.bnorm ?_
          refine To.next ?_
          refine Wp.reg ?_
          refine Sq.v (r_move (look_t rfl)) rfl rfl rfl ?_
          refine Sq.v (r_add (look_t rfl) (look_int 1)) rfl rfl rfl ?_
          refine Sq.v (r_asg (look_t rfl)) rfl rfl rfl ?_
          refine Sq.nil ?_
          replace h := some_in h
          subst h
          exact To.roundG () 0 rfl (.same rfl (.same rfl (.same rfl (.same rfl (.same rfl .nil)))))
        · have h := cond_t hc hm2
          refine Wp.reg ?_
          refine Sq.v (r_fa fd24_0 (look_t rfl)) rfl rfl rfl ?_
          refine Sq.v (r_load (i := 0) ((Lens.id T_api_Value).comp le_T_api_Value_Hi) (r := m1.f_Hi) ty22 (look_t rfl) rfl rfl rfl) rfl rfl rfl ?_
          refine Sq.v (r_move (look_t rfl)) rfl rfl rfl ?_
          refine Sq.v (r_ci64 Try.underlying3 Try.underlying117 (look_t rfl)) rfl rfl rfl ?_
          refine Sq.v (r_shl64 (look_u64 1 rfl) (look_t rfl)) rfl rfl rfl ?_
          refine Sq.v (r_or64 (look_t rfl) (look_t rfl)) rfl rfl rfl ?_
          refine Sq.v (r_fa fd24_0 (look_t rfl)) rfl rfl rfl ?_
          obtain ⟨z1, hz1, h⟩ := bind_some h
          refine Sq.store (i := 0) ((Lens.id T_api_Value).comp le_T_api_Value_Hi) (v := (m1.f_Hi ||| ((1#64) <<< (BitVec.ofInt 64 s1.1).toNat) : BitVec 64)) (b' := (z1 : T_api_Value)) ty22 (look_t rfl) (look_t rfl) rfl rfl (some_in hz1) ?_
          refine Sq.nil ?_
          replace h := some_in h
          subst h
          exact To.meet 0 rfl (.same rfl (.same rfl (.same rfl (.same rfl (.same rfl (.same rfl (.same rfl (.same rfl .nil)))))))) (hm ())
        · have h := cond_f hc hm2
          refine Wp.skip ?_
          replace h := some_in h
          subst h
          exact To.meet 0 rfl (.same rfl (.same rfl (.same rfl (.same rfl (.same rfl (.same rfl (.same rfl (.same rfl .nil)))))))) (hm ())
      · have h := cond_t hc hm1
        refine Wp.reg ?_
        refine Sq.v (r_fa fd24_1 (look_t rfl)) rfl rfl rfl ?_
        refine Sq.v (r_load (i := 0) ((Lens.id T_api_Value).comp le_T_api_Value_Lo) (r := s1.2.f_Lo) ty22 (look_t rfl) rfl rfl rfl) rfl rfl rfl ?_
        refine Sq.v (r_move (look_t rfl)) rfl rfl rfl ?_
        refine Sq.v (r_ci64 Try.underlying3 Try.underlying117 (look_t rfl)) rfl rfl rfl ?_
        refine Sq.v (r_shl64 (look_u64 1 rfl) (look_t rfl)) rfl rfl rfl ?_
        refine Sq.v (r_or64 (look_t rfl) (look_t rfl)) rfl rfl rfl ?_
        refine Sq.v (r_fa fd24_1 (look_t rfl)) rfl rfl rfl ?_
        obtain ⟨z2, hz2, h⟩ := bind_some h
        refine Sq.store (i := 0) ((Lens.id T_api_Value).comp le_T_api_Value_Lo) (v := (s1.2.f_Lo ||| ((1#64) <<< (BitVec.ofInt 64 s1.1).toNat) : BitVec 64)) (b' := (z2 : T_api_Value)) ty22 (look_t rfl) (look_t rfl) rfl rfl (some_in hz2) ?_
        refine Sq.nil ?_
        replace h := some_in h
        subst h
        exact To.meet 0 rfl (.same rfl (.same rfl (.same rfl (.same rfl (.same rfl (.same rfl (.same rfl .nil))))))) (hm ())
      · have h := cond_f hc hm1
        refine Wp.skip ?_
        replace h := some_in h
        subst h
        exact To.meet 0 rfl (.same rfl (.same rfl (.same rfl (.same rfl (.same rfl (.same rfl (.same rfl .nil))))))) (hm ())
    · replace h := cond_f hc h
      refine Wp.exit ?_
      refine To.exit ?_
      replace h := some_in h
      subst h
      exact To.leaveG () 0 rfl (by simp) rfl (.same rfl (.same rfl (.same rfl (.same rfl (.same rfl (.same rfl .nil))))))
  · clear hl
    refine To.bexit ?_
    refine To.next ?_
    refine Wp.seq ?_
    refine Wp.reg ?_
    refine Sq.v (r_load (i := 0) (Lens.id T_api_Value) (r := e1.2.2) ty24 (look_t rfl) rfl rfl rfl) rfl rfl rfl ?_
    refine Sq.store (i := 1) (Lens.id T_api_Value) (v := (e1.2.2 : T_api_Value)) (b' := (e1.2.2 : T_api_Value)) ty24 (look_t rfl) (look_t rfl) rfl rfl rfl ?_
    refine Sq.nil ?_
    refine To.next ?_
    refine Wp.ret ?_
    replace h := some_in h
    subst h
    exact To.end1 rfl (rv_c (i := 1) ty24 rfl rfl)
set_option maxHeartbeats 2000000 in
theorem C_mcase_Low {x0 : T_api_Value} {x1 : Int}  {r : T_api_Value} (h : L_mcase_Low x0 x1 = some r) : Meets Try.prog 48 [VP.of (x0), VP.of (x1)] (VP.of (r)) := by
  unfold L_mcase_Low at h
  refine Meets.of Try.func48 rfl Try.ntmps48 rfl fun W A => ?_
  refine Wp.seq ?_
  refine Wp.reg ?_
  refine Sq.box (z := (x0 : T_api_Value)) (look_t rfl) rfl fun p1 => ?_
  refine Sq.alloc zr24 rfl fun p2 => ?_
  refine Sq.nil ?_
  refine To.next ?_
  refine Wp.seq ?_
  refine Wp.block ?_
  refine Wp.seq ?_
  refine Wp.reg ?_
  refine Sq.v (r_move (look_t rfl)) rfl rfl rfl ?_
  refine Sq.v (r_geq (look_t rfl) (look_int 128)) rfl rfl rfl ?_
  refine Sq.v (r_asg (look_t rfl)) rfl rfl rfl ?_
  refine Sq.nil ?_
  refine To.next ?_
  refine Wp.cond (look_t rfl) (fun hc => ?_) (fun hc => ?_)
  · replace h := cond_t hc h
    refine Wp.seq ?_
    refine Wp.reg ?_
    refine Sq.v (r_load (i := 1) (Lens.id T_api_Value) (r := x0) ty24 (look_t rfl) rfl rfl rfl) rfl rfl rfl ?_
    refine Sq.store (i := 0) (Lens.id T_api_Value) (v := (x0 : T_api_Value)) (b' := (x0 : T_api_Value)) ty24 (look_t rfl) (look_t rfl) rfl rfl rfl ?_
    refine Sq.nil ?_
    refine To.next ?_
    refine Wp.ret ?_
    refine To.bret ?_
    refine To.ret ?_
    replace h := some_in h
    subst h
    exact To.end1 rfl (rv_c (i := 0) ty24 rfl rfl)
  · replace h := cond_f hc h
    refine Wp.seq ?_
    refine Wp.reg ?_
    refine Sq.v (r_move (look_t rfl)) rfl rfl rfl ?_
    refine Sq.v (r_geq (look_t rfl) (look_int 64)) rfl rfl rfl ?_
    refine Sq.v (r_asg (look_t rfl)) rfl rfl rfl ?_
    refine Sq.nil ?_
    refine To.next ?_
    refine Wp.cond (look_t rfl) (fun hc => ?_) (fun hc => ?_)
    · replace h := cond_t hc h
      refine Wp.seq ?_
      refine Wp.reg ?_
      refine Sq.v (r_fa fd24_0 (look_t rfl)) rfl rfl rfl ?_
      refine Sq.v (r_load (i := 1) ((Lens.id T_api_Value).comp le_T_api_Value_Hi) (r := x0.f_Hi) ty22 (look_t rfl) rfl rfl rfl) rfl rfl rfl ?_
      refine Sq.v (r_move (look_t rfl)) rfl rfl rfl ?_
      refine Sq.v (r_sub (look_t rfl) (look_int 64)) rfl rfl rfl ?_
      refine Sq.v (r_ci64 Try.underlying3 Try.underlying117 (look_t rfl)) rfl rfl rfl ?_
      refine Sq.v (r_shl64 (look_u64 1 rfl) (look_t rfl)) rfl rfl rfl ?_
      refine Sq.v (r_sub64 (look_t rfl) (look_u64 1 rfl)) rfl rfl rfl ?_
      obtain ⟨z1, hz1, h⟩ := bind_some h
      refine Sq.v ((r_and64 (look_t rfl) (look_t rfl)).as (some_in hz1)) rfl rfl rfl ?_
      refine Sq.v (r_fa fd24_1 (look_t rfl)) rfl rfl rfl ?_
      refine Sq.v (r_load (i := 1) ((Lens.id T_api_Value).comp le_T_api_Value_Lo) (r := x0.f_Lo) ty22 (look_t rfl) rfl rfl rfl) rfl rfl rfl ?_
      refine Sq.v (r_build (b := { f_Hi := z1, f_Lo := x0.f_Lo : T_api_Value }) rfl bu24 zr24 (.cons le_T_api_Value_Hi rfl (look_t rfl) rfl (.cons le_T_api_Value_Lo rfl (look_t rfl) rfl (.nil)))) rfl rfl rfl ?_
      refine Sq.store (i := 0) (Lens.id T_api_Value) (v := ({ f_Hi := z1, f_Lo := x0.f_Lo : T_api_Value } : T_api_Value)) (b' := ({ f_Hi := z1, f_Lo := x0.f_Lo : T_api_Value } : T_api_Value)) ty24 (look_t rfl) (look_t rfl) rfl rfl rfl ?_
      refine Sq.nil ?_
      refine To.next ?_
      refine Wp.ret ?_
      refine To.bret ?_
      refine To.ret ?_
      replace h := some_in h
      subst h
      exact To.end1 rfl (rv_c (i := 0) ty24 rfl rfl)
    · replace h := cond_f hc h
      refine Wp.seq ?_
      refine Wp.reg ?_
      refine Sq.v (r_move (look_t rfl)) rfl rfl rfl ?_
      refine Sq.v (r_leq (look_t rfl) (look_int 0)) rfl rfl rfl ?_
      refine Sq.v (r_asg (look_t rfl)) rfl rfl rfl ?_
      refine Sq.nil ?_
      refine To.next ?_
      refine Wp.cond (look_t rfl) (fun hc => ?_) (fun hc => ?_)
      · replace h := cond_t hc h
        refine Wp.seq ?_
        refine Wp.reg ?_
        refine Sq.v (r_build (b := (default : T_api_Value)) rfl bu24 zr24 (.nil)) rfl rfl rfl ?_
        refine Sq.store (i := 0) (Lens.id T_api_Value) (v := ((default : T_api_Value) : T_api_Value)) (b' := ((default : T_api_Value) : T_api_Value)) ty24 (look_t rfl) (look_t rfl) rfl rfl rfl ?_
        refine Sq.nil ?_
        refine To.next ?_
        refine Wp.ret ?_
        refine To.bret ?_
        refine To.ret ?_
        replace h := some_in h
        subst h
        exact To.end1 rfl (rv_c (i := 0) ty24 rfl rfl)
      · replace h := cond_f hc h
        refine Wp.skip ?_
        refine To.bnorm ?_
        refine To.next ?_
        refine Wp.seq ?_
        refine Wp.reg ?_
        refine Sq.v (r_fa fd24_1 (look_t rfl)) rfl rfl rfl ?_
        refine Sq.v (r_load (i := 1) ((Lens.id T_api_Value).comp le_T_api_Value_Lo) (r := x0.f_Lo) ty22 (look_t rfl) rfl rfl rfl) rfl rfl rfl ?_
        refine Sq.v (r_move (look_t rfl)) rfl rfl rfl ?_
        refine Sq.v (r_ci64 Try.underlying3 Try.underlying117 (look_t rfl)) rfl rfl rfl ?_
        refine Sq.v (r_shl64 (look_u64 1 rfl) (look_t rfl)) rfl rfl rfl ?_
        refine Sq.v (r_sub64 (look_t rfl) (look_u64 1 rfl)) rfl rfl rfl ?_
        refine Sq.v (r_and64 (look_t rfl) (look_t rfl)) rfl rfl rfl ?_
        obtain ⟨z2, hz2, h⟩ := bind_some h
        refine Sq.v ((r_build (b := { (default : T_api_Value) with f_Lo := x0.f_Lo &&& (((1#64) <<< (BitVec.ofInt 64 x1).toNat) - (1#64)) }) rfl bu24 zr24 (.cons le_T_api_Value_Lo rfl (look_t rfl) rfl (.nil))).as (some_in hz2)) rfl rfl rfl ?_
        refine Sq.store (i := 0) (Lens.id T_api_Value) (v := (z2 : T_api_Value)) (b' := (z2 : T_api_Value)) ty24 (look_t rfl) (look_t rfl) rfl rfl rfl ?_
        refine Sq.nil ?_
        refine To.next ?_
        refine Wp.ret ?_
        replace h := some_in h
        subst h
        exact To.end1 rfl (rv_c (i := 0) ty24 rfl rfl)
set_option maxHeartbeats 2000000 in
theorem C_cube_combined {x0 : Vector T_api_Value 4} {x1 : Vector T_api_Value 4} {x2 : T_api_Value → T_api_Value → Option T_api_Value}  {r : (Vector T_api_Value 4)} (h : L_cube_combined x0 x1 x2 = some r) : Meets Try.prog 52 [VP.of (x0), VP.of (x1), VP.fn2 Try.prog x2] (VP.of (r)) := by
  unfold L_cube_combined at h
  refine Meets.of Try.func52 rfl Try.ntmps52 rfl fun W A => ?_
  refine Wp.seq ?_
  refine Wp.reg ?_
  refine Sq.box (z := (x0 : Vector T_api_Value 4)) (look_t rfl) rfl fun p1 => ?_
  refine Sq.box (z := (x1 : Vector T_api_Value 4)) (look_t rfl) rfl fun p2 => ?_
  refine Sq.alloc zr26 rfl fun p3 => ?_
  refine Sq.nil ?_
  refine To.next ?_
  refine Wp.seq ?_
  refine Wp.seq ?_
  refine Wp.reg ?_
  refine Sq.v (r_move (look_int 0)) rfl rfl rfl ?_
  refine Sq.nil ?_
  refine To.next ?_
  refine Wp.block ?_
  obtain ⟨e1, hl, h⟩ := bind_some h
  refine Wp.loopG (σ := Int × (Vector T_api_Value 4)) (ε := (Int × Bool × (Vector T_api_Value 4))) (γ := Unit) (δ := Unit) hl (fun s1 g1 => [(0, VP.of (x0)), (1, VP.of (x1)), (2, VP.fn2 Try.prog x2), (3, VP.eq (.pointer (some ⟨p1, 0, none⟩))), (4, VP.eq (.pointer (some ⟨p2, 0, none⟩))), (6, VP.eq (.pointer (some ⟨p3, 0, none⟩))), (8, VP.of (s1.1))]) (fun s1 g1 => [⟨some p3, .var ((default : Vector T_api_Value 4) : Vector T_api_Value 4)⟩, ⟨some p2, .var (x1 : Vector T_api_Value 4)⟩, ⟨some p1, .var (s1.2 : Vector T_api_Value 4)⟩]) (fun q1 => Exit.exit 0) (fun q1 g1 => [(0, VP.of (x0)), (1, VP.of (x1)), (2, VP.fn2 Try.prog x2), (3, VP.eq (.pointer (some ⟨p1, 0, none⟩))), (4, VP.eq (.pointer (some ⟨p2, 0, none⟩))), (6, VP.eq (.pointer (some ⟨p3, 0, none⟩))), (8, VP.of (q1.1)), (9, VP.of (q1.2.1))]) (fun q1 g1 => [⟨some p3, .var ((default : Vector T_api_Value 4) : Vector T_api_Value 4)⟩, ⟨some p2, .var (x1 : Vector T_api_Value 4)⟩, ⟨some p1, .var (q1.2.2 : Vector T_api_Value 4)⟩]) () rfl (.same rfl (.same rfl (.same rfl (.same rfl (.same rfl (.same rfl (.same rfl .nil))))))) (fun s1 r h g1 => ?_) (fun g1 => ?_)
  · clear hl
    refine Wp.seq ?_
    refine Wp.reg ?_
    refine Sq.v (r_lss (look_t rfl) (look_int 4)) rfl rfl rfl ?_
    refine Sq.nil ?_
    refine To.next ?_
    refine Wp.seq ?_
    refine Wp.cond (look_t rfl) (fun hc => ?_) (fun hc => ?_)
    · replace h := cond_t hc h
      refine Wp.skip ?_
      refine To.next ?_
      refine Wp.seq ?_
      refine Wp.block ?_
      refine Wp.seq ?_
      refine Wp.reg ?_
      refine Sq.v (r_move (look_t rfl)) rfl rfl rfl ?_
      refine Sq.v (r_asg (look_t rfl)) rfl rfl rfl ?_
      refine Sq.nil ?_
      refine To.next ?_
      obtain ⟨k1, hk1, h⟩ := bind_some h
      obtain ⟨k2, hk2, h⟩ := bind_some h
      obtain ⟨y1, hy1, h⟩ := bind_some h
      obtain ⟨k3, hk3, h⟩ := bind_some h
      refine Wp.draw mixed 10 [some 11, some 12, some 13, some 14, some 15, some 16, some 17, some 18, some 19, some 20] [[], [], [], [2], [3], [], [5], [6], [1, 4, 7], [0]] [.val (VP.of (s1.1)), .val (VP.fn2 Try.prog x2), .val (VP.of (s1.1)), .val (VP.eq (.pointer (some ⟨p1, 0 + k1 * 2, none⟩))), .val (VP.of (vget s1.2 k1)), .val (VP.of (s1.1)), .val (VP.eq (.pointer (some ⟨p2, 0 + k2 * 2, none⟩))), .val (VP.of (vget x1 k2)), .val (VP.of (y1)), .val (VP.eq (.pointer (some ⟨p1, 0 + k3 * 2, none⟩)))] [false, false, false, false, false, false, false, false, false, false] (by kernel_rfl) rfl rfl rfl (fun ps1 => ⟨fun L' hL => HO.v (r_move (look_t rfl)) rfl, fun L' hL => HO.v (r_move (look_t rfl)) rfl, fun L' hL => HO.v (r_move (look_t rfl)) rfl, fun L' hL => HO.v (r_ia (k := k1) ar26 (look_t rfl) (look_t rfl) (idx_some hk1)) rfl, fun L' hL => HO.v (r_load (i := 2) ((Lens.id (Vector T_api_Value 4)).comp (Lens.idx (α := T_api_Value) 4 k1 (idx_some hk1).1)) (r := vget s1.2 k1) ty24 (look_t rfl) (hL _ _ rfl rfl) rfl rfl) rfl, fun L' hL => HO.v (r_move (look_t rfl)) rfl, fun L' hL => HO.v (r_ia (k := k2) ar26 (look_t rfl) (look_t rfl) (idx_some hk2)) rfl, fun L' hL => HO.v (r_load (i := 1) ((Lens.id (Vector T_api_Value 4)).comp (Lens.idx (α := T_api_Value) 4 k2 (idx_some hk2).1)) (r := vget x1 k2) ty24 (look_t rfl) (hL _ _ rfl rfl) rfl rfl) rfl, fun L' hL => HO.v (r_callF2 (look_t rfl) (look_t rfl) (look_t rfl) hy1) rfl, fun L' hL => HO.v (r_ia (k := k3) ar26 (look_t rfl) (look_t rfl) (idx_some hk3)) rfl, trivial⟩) fun ps1 => ?_
      refine Sq.store (i := 2) ((Lens.id (Vector T_api_Value 4)).comp (Lens.idx (α := T_api_Value) 4 k3 (idx_some hk3).1)) (v := (y1 : T_api_Value)) (b' := (vset s1.2 k3 y1 : Vector T_api_Value 4)) ty24 (look_t rfl) (look_t rfl) rfl rfl rfl ?_
      refine Sq.nil ?_
      refine To.bnorm ?_
      refine To.next ?_
      refine Wp.reg ?_
      refine Sq.v (r_add (look_t rfl) (look_int 1)) rfl rfl rfl ?_
      refine Sq.v (r_move (look_t rfl)) rfl rfl rfl ?_
      refine Sq.nil ?_
      replace h := some_in h
      subst h
      exact To.roundG () 0 rfl (.same rfl (.same rfl (.same rfl (.same rfl (.same rfl (.same rfl (.same rfl .nil)))))))
    · replace h := cond_f hc h
      refine Wp.exit ?_
      refine To.exit ?_
      replace h := some_in h
      subst h
      exact To.leaveG () 0 rfl (by simp) rfl (.same rfl (.same rfl (.same rfl (.same rfl (.same rfl (.same rfl (.same rfl (.same rfl .nil))))))))
  · clear hl
    refine To.bexit ?_
    refine To.next ?_
    refine Wp.seq ?_
    refine Wp.reg ?_
    refine Sq.v (r_load (i := 2) (Lens.id (Vector T_api_Value 4)) (r := e1.2.2) ty26 (look_t rfl) rfl rfl rfl) rfl rfl rfl ?_
    refine Sq.store (i := 0) (Lens.id (Vector T_api_Value 4)) (v := (e1.2.2 : Vector T_api_Value 4)) (b' := (e1.2.2 : Vector T_api_Value 4)) ty26 (look_t rfl) (look_t rfl) rfl rfl rfl ?_
    refine Sq.nil ?_
    refine To.next ?_
    refine Wp.ret ?_
    replace h := some_in h
    subst h
    exact To.end1 rfl (rv_c (i := 0) ty26 rfl rfl)
set_option maxHeartbeats 2000000 in
theorem C_value_And {x0 : T_api_Value} {x1 : T_api_Value}  {r : T_api_Value} (h : L_value_And x0 x1 = some r) : Meets Try.prog 56 [VP.of (x0), VP.of (x1)] (VP.of (r)) := by
  unfold L_value_And at h
  refine Meets.of Try.func56 rfl Try.ntmps56 rfl fun W A => ?_
  refine Wp.seq ?_
  refine Wp.reg ?_
  refine Sq.box (z := (x0 : T_api_Value)) (look_t rfl) rfl fun p1 => ?_
  refine Sq.box (z := (x1 : T_api_Value)) (look_t rfl) rfl fun p2 => ?_
  refine Sq.alloc zr24 rfl fun p3 => ?_
  refine Sq.nil ?_
  refine To.next ?_
  refine Wp.seq ?_
  refine Wp.reg ?_
  refine Sq.v (r_fa fd24_0 (look_t rfl)) rfl rfl rfl ?_
  refine Sq.v (r_load (i := 2) ((Lens.id T_api_Value).comp le_T_api_Value_Hi) (r := x0.f_Hi) ty22 (look_t rfl) rfl rfl rfl) rfl rfl rfl ?_
  refine Sq.v (r_fa fd24_0 (look_t rfl)) rfl rfl rfl ?_
  refine Sq.v (r_load (i := 1) ((Lens.id T_api_Value).comp le_T_api_Value_Hi) (r := x1.f_Hi) ty22 (look_t rfl) rfl rfl rfl) rfl rfl rfl ?_
  refine Sq.v (r_and64 (look_t rfl) (look_t rfl)) rfl rfl rfl ?_
  refine Sq.v (r_fa fd24_1 (look_t rfl)) rfl rfl rfl ?_
  refine Sq.v (r_load (i := 2) ((Lens.id T_api_Value).comp le_T_api_Value_Lo) (r := x0.f_Lo) ty22 (look_t rfl) rfl rfl rfl) rfl rfl rfl ?_
  refine Sq.v (r_fa fd24_1 (look_t rfl)) rfl rfl rfl ?_
  refine Sq.v (r_load (i := 1) ((Lens.id T_api_Value).comp le_T_api_Value_Lo) (r := x1.f_Lo) ty22 (look_t rfl) rfl rfl rfl) rfl rfl rfl ?_
  refine Sq.v (r_and64 (look_t rfl) (look_t rfl)) rfl rfl rfl ?_
  obtain ⟨z1, hz1, h⟩ := bind_some h
  refine Sq.v ((r_build (b := { f_Hi := x0.f_Hi &&& x1.f_Hi, f_Lo := x0.f_Lo &&& x1.f_Lo : T_api_Value }) rfl bu24 zr24 (.cons le_T_api_Value_Hi rfl (look_t rfl) rfl (.cons le_T_api_Value_Lo rfl (look_t rfl) rfl (.nil)))).as (some_in hz1)) rfl rfl rfl ?_
  refine Sq.store (i := 0) (Lens.id T_api_Value) (v := (z1 : T_api_Value)) (b' := (z1 : T_api_Value)) ty24 (look_t rfl) (look_t rfl) rfl rfl rfl ?_
  refine Sq.nil ?_
  refine To.next ?_
  refine Wp.ret ?_
  replace h := some_in h
  subst h
  exact To.end1 rfl (rv_c (i := 0) ty24 rfl rfl)
set_option maxHeartbeats 2000000 in
theorem C_value_Xor {x0 : T_api_Value} {x1 : T_api_Value}  {r : T_api_Value} (h : L_value_Xor x0 x1 = some r) : Meets Try.prog 57 [VP.of (x0), VP.of (x1)] (VP.of (r)) := by
  unfold L_value_Xor at h
  refine Meets.of Try.func57 rfl Try.ntmps57 rfl fun W A => ?_
  refine Wp.seq ?_
  refine Wp.reg ?_
  refine Sq.box (z := (x0 : T_api_Value)) (look_t rfl) rfl fun p1 => ?_
  refine Sq.box (z := (x1 : T_api_Value)) (look_t rfl) rfl fun p2 => ?_
  refine Sq.alloc zr24 rfl fun p3 => ?_
  refine Sq.nil ?_
  refine To.next ?_
  refine Wp.seq ?_
  refine Wp.reg ?_
  refine Sq.v (r_fa fd24_0 (look_t rfl)) rfl rfl rfl ?_
  refine Sq.v (r_load (i := 2) ((Lens.id T_api_Value).comp le_T_api_Value_Hi) (r := x0.f_Hi) ty22 (look_t rfl) rfl rfl rfl) rfl rfl rfl ?_
  refine Sq.v (r_fa fd24_0 (look_t rfl)) rfl rfl rfl ?_
  refine Sq.v (r_load (i := 1) ((Lens.id T_api_Value).comp le_T_api_Value_Hi) (r := x1.f_Hi) ty22 (look_t rfl) rfl rfl rfl) rfl rfl rfl ?_
  refine Sq.v (r_xor64 (look_t rfl) (look_t rfl)) rfl rfl rfl ?_
  refine Sq.v (r_fa fd24_1 (look_t rfl)) rfl rfl rfl ?_
  refine Sq.v (r_load (i := 2) ((Lens.id T_api_Value).comp le_T_api_Value_Lo) (r := x0.f_Lo) ty22 (look_t rfl) rfl rfl rfl) rfl rfl rfl ?_
  refine Sq.v (r_fa fd24_1 (look_t rfl)) rfl rfl rfl ?_
  refine Sq.v (r_load (i := 1) ((Lens.id T_api_Value).comp le_T_api_Value_Lo) (r := x1.f_Lo) ty22 (look_t rfl) rfl rfl rfl) rfl rfl rfl ?_
  refine Sq.v (r_xor64 (look_t rfl) (look_t rfl)) rfl rfl rfl ?_
  obtain ⟨z1, hz1, h⟩ := bind_some h
  refine Sq.v ((r_build (b := { f_Hi := x0.f_Hi ^^^ x1.f_Hi, f_Lo := x0.f_Lo ^^^ x1.f_Lo : T_api_Value }) rfl bu24 zr24 (.cons le_T_api_Value_Hi rfl (look_t rfl) rfl (.cons le_T_api_Value_Lo rfl (look_t rfl) rfl (.nil)))).as (some_in hz1)) rfl rfl rfl ?_
  refine Sq.store (i := 0) (Lens.id T_api_Value) (v := (z1 : T_api_Value)) (b' := (z1 : T_api_Value)) ty24 (look_t rfl) (look_t rfl) rfl rfl rfl ?_
  refine Sq.nil ?_
  refine To.next ?_
  refine Wp.ret ?_
  replace h := some_in h
  subst h
  exact To.end1 rfl (rv_c (i := 0) ty24 rfl rfl)
set_option maxHeartbeats 2000000 in
theorem C_value_Or {x0 : T_api_Value} {x1 : T_api_Value}  {r : T_api_Value} (h : L_value_Or x0 x1 = some r) : Meets Try.prog 58 [VP.of (x0), VP.of (x1)] (VP.of (r)) := by
  unfold L_value_Or at h
  refine Meets.of Try.func58 rfl Try.ntmps58 rfl fun W A => ?_
  refine Wp.seq ?_
  refine Wp.reg ?_
  refine Sq.box (z := (x0 : T_api_Value)) (look_t rfl) rfl fun p1 => ?_
  refine Sq.box (z := (x1 : T_api_Value)) (look_t rfl) rfl fun p2 => ?_
  refine Sq.alloc zr24 rfl fun p3 => ?_
  refine Sq.nil ?_
  refine To.next ?_
  refine Wp.seq ?_
  refine Wp.reg ?_
  refine Sq.v (r_fa fd24_0 (look_t rfl)) rfl rfl rfl ?_
  refine Sq.v (r_load (i := 2) ((Lens.id T_api_Value).comp le_T_api_Value_Hi) (r := x0.f_Hi) ty22 (look_t rfl) rfl rfl rfl) rfl rfl rfl ?_
  refine Sq.v (r_fa fd24_0 (look_t rfl)) rfl rfl rfl ?_
  refine Sq.v (r_load (i := 1) ((Lens.id T_api_Value).comp le_T_api_Value_Hi) (r := x1.f_Hi) ty22 (look_t rfl) rfl rfl rfl) rfl rfl rfl ?_
  refine Sq.v (r_or64 (look_t rfl) (look_t rfl)) rfl rfl rfl ?_
  refine Sq.v (r_fa fd24_1 (look_t rfl)) rfl rfl rfl ?_
  refine Sq.v (r_load (i := 2) ((Lens.id T_api_Value).comp le_T_api_Value_Lo) (r := x0.f_Lo) ty22 (look_t rfl) rfl rfl rfl) rfl rfl rfl ?_
  refine Sq.v (r_fa fd24_1 (look_t rfl)) rfl rfl rfl ?_
  refine Sq.v (r_load (i := 1) ((Lens.id T_api_Value).comp le_T_api_Value_Lo) (r := x1.f_Lo) ty22 (look_t rfl) rfl rfl rfl) rfl rfl rfl ?_
  refine Sq.v (r_or64 (look_t rfl) (look_t rfl)) rfl rfl rfl ?_
  obtain ⟨z1, hz1, h⟩ := bind_some h
  refine Sq.v ((r_build (b := { f_Hi := x0.f_Hi ||| x1.f_Hi, f_Lo := x0.f_Lo ||| x1.f_Lo : T_api_Value }) rfl bu24 zr24 (.cons le_T_api_Value_Hi rfl (look_t rfl) rfl (.cons le_T_api_Value_Lo rfl (look_t rfl) rfl (.nil)))).as (some_in hz1)) rfl rfl rfl ?_
  refine Sq.store (i := 0) (Lens.id T_api_Value) (v := (z1 : T_api_Value)) (b' := (z1 : T_api_Value)) ty24 (look_t rfl) (look_t rfl) rfl rfl rfl ?_
  refine Sq.nil ?_
  refine To.next ?_
  refine Wp.ret ?_
  replace h := some_in h
  subst h
  exact To.end1 rfl (rv_c (i := 0) ty24 rfl rfl)
set_option maxHeartbeats 2000000 in
theorem C_value_within {x0 : Int}  {r : Int} (h : L_value_within x0 = some r) : Meets Try.prog 115 [VP.of (x0)] (VP.of (r)) := by
  unfold L_value_within at h
  refine Meets.of Try.func115 rfl Try.ntmps115 rfl fun W A => ?_
  refine Wp.seq ?_
  refine Wp.reg ?_
  refine Sq.v (r_asg (look_int 0)) rfl rfl rfl ?_
  refine Sq.nil ?_
  refine To.next ?_
  refine Wp.seq ?_
  refine Wp.reg ?_
  refine Sq.v (r_move (look_t rfl)) rfl rfl rfl ?_
  refine Sq.v (r_max (look_int 0) (look_t rfl)) rfl rfl rfl ?_
  refine Sq.v (r_min (look_t rfl) (look_int 128)) rfl rfl rfl ?_
  refine Sq.v (r_asg (look_t rfl)) rfl rfl rfl ?_
  refine Sq.nil ?_
  refine To.next ?_
  refine Wp.ret ?_
  replace h := some_in h
  subst h
  exact To.end1 rfl (rv_t rfl)
set_option maxHeartbeats 2000000 in
theorem C_value_Right {x0 : T_api_Value} {x1 : Int}  {r : T_api_Value} (h : L_value_Right x0 x1 = some r) : Meets Try.prog 112 [VP.of (x0), VP.of (x1)] (VP.of (r)) := by
  unfold L_value_Right at h
  refine Meets.of Try.func112 rfl Try.ntmps112 rfl fun W A => ?_
  refine Wp.seq ?_
  refine Wp.reg ?_
  refine Sq.box (z := (x0 : T_api_Value)) (look_t rfl) rfl fun p1 => ?_
  refine Sq.alloc zr24 rfl fun p2 => ?_
  refine Sq.nil ?_
  refine To.next ?_
  refine Wp.seq ?_
  refine Wp.block ?_
  refine Wp.seq ?_
  refine Wp.reg ?_
  refine Sq.v (r_move (look_t rfl)) rfl rfl rfl ?_
  refine Sq.v (r_leq (look_t rfl) (look_int 0)) rfl rfl rfl ?_
  refine Sq.v (r_asg (look_t rfl)) rfl rfl rfl ?_
  refine Sq.nil ?_
  refine To.next ?_
  refine Wp.cond (look_t rfl) (fun hc => ?_) (fun hc => ?_)
  · replace h := cond_t hc h
    refine Wp.seq ?_
    refine Wp.reg ?_
    refine Sq.v (r_load (i := 1) (Lens.id T_api_Value) (r := x0) ty24 (look_t rfl) rfl rfl rfl) rfl rfl rfl ?_
    refine Sq.store (i := 0) (Lens.id T_api_Value) (v := (x0 : T_api_Value)) (b' := (x0 : T_api_Value)) ty24 (look_t rfl) (look_t rfl) rfl rfl rfl ?_
    refine Sq.nil ?_
    refine To.next ?_
    refine Wp.ret ?_
    refine To.bret ?_
    refine To.ret ?_
    replace h := some_in h
    subst h
    exact To.end1 rfl (rv_c (i := 0) ty24 rfl rfl)
  · replace h := cond_f hc h
    refine Wp.seq ?_
    refine Wp.reg ?_
    refine Sq.v (r_move (look_t rfl)) rfl rfl rfl ?_
    refine Sq.v (r_geq (look_t rfl) (look_int 64)) rfl rfl rfl ?_
    refine Sq.v (r_asg (look_t rfl)) rfl rfl rfl ?_
    refine Sq.nil ?_
    refine To.next ?_
    refine Wp.cond (look_t rfl) (fun hc => ?_) (fun hc => ?_)
    · replace h := cond_t hc h
      refine Wp.seq ?_
      refine Wp.reg ?_
      refine Sq.v (r_fa fd24_0 (look_t rfl)) rfl rfl rfl ?_
      refine Sq.v (r_load (i := 1) ((Lens.id T_api_Value).comp le_T_api_Value_Hi) (r := x0.f_Hi) ty22 (look_t rfl) rfl rfl rfl) rfl rfl rfl ?_
      refine Sq.v (r_move (look_t rfl)) rfl rfl rfl ?_
      refine Sq.v (r_sub (look_t rfl) (look_int 64)) rfl rfl rfl ?_
      refine Sq.v (r_ci64 Try.underlying3 Try.underlying117 (look_t rfl)) rfl rfl rfl ?_
      refine Sq.v (r_shr64 (look_t rfl) (look_t rfl)) rfl rfl rfl ?_
      obtain ⟨z1, hz1, h⟩ := bind_some h
      refine Sq.v ((r_build (b := { (default : T_api_Value) with f_Lo := x0.f_Hi >>> (BitVec.ofInt 64 (w64 (x1 - 64))).toNat }) rfl bu24 zr24 (.cons le_T_api_Value_Lo rfl (look_t rfl) rfl (.nil))).as (some_in hz1)) rfl rfl rfl ?_
      refine Sq.store (i := 0) (Lens.id T_api_Value) (v := (z1 : T_api_Value)) (b' := (z1 : T_api_Value)) ty24 (look_t rfl) (look_t rfl) rfl rfl rfl ?_
      refine Sq.nil ?_
      refine To.next ?_
      refine Wp.ret ?_
      refine To.bret ?_
      refine To.ret ?_
      replace h := some_in h
      subst h
      exact To.end1 rfl (rv_c (i := 0) ty24 rfl rfl)
    · replace h := cond_f hc h
      refine Wp.skip ?_
      refine To.bnorm ?_
      refine To.next ?_
      refine Wp.seq ?_
      refine Wp.reg ?_
      refine Sq.v (r_fa fd24_0 (look_t rfl)) rfl rfl rfl ?_
      refine Sq.v (r_load (i := 1) ((Lens.id T_api_Value).comp le_T_api_Value_Hi) (r := x0.f_Hi) ty22 (look_t rfl) rfl rfl rfl) rfl rfl rfl ?_
      refine Sq.v (r_move (look_t rfl)) rfl rfl rfl ?_
      refine Sq.v (r_ci64 Try.underlying3 Try.underlying117 (look_t rfl)) rfl rfl rfl ?_
      refine Sq.v (r_shr64 (look_t rfl) (look_t rfl)) rfl rfl rfl ?_
      refine Sq.v (r_fa fd24_1 (look_t rfl)) rfl rfl rfl ?_
      refine Sq.v (r_load (i := 1) ((Lens.id T_api_Value).comp le_T_api_Value_Lo) (r := x0.f_Lo) ty22 (look_t rfl) rfl rfl rfl) rfl rfl rfl ?_
      refine Sq.v (r_move (look_t rfl)) rfl rfl rfl ?_
      refine Sq.v (r_ci64 Try.underlying3 Try.underlying117 (look_t rfl)) rfl rfl rfl ?_
      refine Sq.v (r_shr64 (look_t rfl) (look_t rfl)) rfl rfl rfl ?_
      refine Sq.v (r_fa fd24_0 (look_t rfl)) rfl rfl rfl ?_
      refine Sq.v (r_load (i := 1) ((Lens.id T_api_Value).comp le_T_api_Value_Hi) (r := x0.f_Hi) ty22 (look_t rfl) rfl rfl rfl) rfl rfl rfl ?_
      refine Sq.v (r_move (look_t rfl)) rfl rfl rfl ?_
      refine Sq.v (r_sub (look_int 64) (look_t rfl)) rfl rfl rfl ?_
      refine Sq.v (r_ci64 Try.underlying3 Try.underlying117 (look_t rfl)) rfl rfl rfl ?_
      refine Sq.v (r_shl64 (look_t rfl) (look_t rfl)) rfl rfl rfl ?_
      obtain ⟨z2, hz2, h⟩ := bind_some h
      refine Sq.v ((r_or64 (look_t rfl) (look_t rfl)).as (some_in hz2)) rfl rfl rfl ?_
      obtain ⟨z3, hz3, h⟩ := bind_some h
      refine Sq.v ((r_build (b := { f_Hi := x0.f_Hi >>> (BitVec.ofInt 64 x1).toNat, f_Lo := z2 : T_api_Value }) rfl bu24 zr24 (.cons le_T_api_Value_Hi rfl (look_t rfl) rfl (.cons le_T_api_Value_Lo rfl (look_t rfl) rfl (.nil)))).as (some_in hz3)) rfl rfl rfl ?_
      refine Sq.store (i := 0) (Lens.id T_api_Value) (v := (z3 : T_api_Value)) (b' := (z3 : T_api_Value)) ty24 (look_t rfl) (look_t rfl) rfl rfl rfl ?_
      refine Sq.nil ?_
      refine To.next ?_
      refine Wp.ret ?_
      replace h := some_in h
      subst h
      exact To.end1 rfl (rv_c (i := 0) ty24 rfl rfl)
set_option maxHeartbeats 2000000 in
theorem C_cube_place {x0 : Int}  {r : Int × Int} (h : L_cube_place x0 = some r) : Meets Try.prog 59 [VP.of (x0)] (VP.tup [VP.of (r.1), VP.of (r.2)]) := by
  unfold L_cube_place at h
  refine Meets.of Try.func59 rfl Try.ntmps59 rfl fun W A => ?_
  refine Wp.seq ?_
  refine Wp.reg ?_
  refine Sq.v (r_asg (look_int 0)) rfl rfl rfl ?_
  refine Sq.v (r_asg (look_int 0)) rfl rfl rfl ?_
  refine Sq.nil ?_
  refine To.next ?_
  refine Wp.seq ?_
  refine Wp.reg ?_
  refine Sq.v (r_move (look_t rfl)) rfl rfl rfl ?_
  obtain ⟨y1, hy1, h⟩ := bind_some h
  refine Sq.v (r_quo (look_t rfl) (look_int 128) (divM_some hy1)) rfl rfl rfl ?_
  refine Sq.v (r_move (look_t rfl)) rfl rfl rfl ?_
  obtain ⟨y2, hy2, h⟩ := bind_some h
  refine Sq.v (r_rem (look_t rfl) (look_int 128) (modM_some hy2)) rfl rfl rfl ?_
  refine Sq.v (r_sub (look_int 127) (look_t rfl)) rfl rfl rfl ?_
  refine Sq.v (r_asg (look_t rfl)) rfl rfl rfl ?_
  refine Sq.v (r_asg (look_t rfl)) rfl rfl rfl ?_
  refine Sq.nil ?_
  refine To.next ?_
  refine Wp.ret ?_
  replace h := some_in h
  subst h
  exact To.end2 rfl (rv_t rfl) (rv_t rfl)
set_option maxHeartbeats 2000000 in
theorem C_value_Of {x0 : BitVec 64}  {r : T_api_Value} (h : L_value_Of x0 = some r) : Meets Try.prog 61 [VP.of (x0)] (VP.of (r)) := by
  unfold L_value_Of at h
  refine Meets.of Try.func61 rfl Try.ntmps61 rfl fun W A => ?_
  refine Wp.seq ?_
  refine Wp.reg ?_
  refine Sq.alloc zr24 rfl fun p1 => ?_
  refine Sq.nil ?_
  refine To.next ?_
  refine Wp.seq ?_
  refine Wp.reg ?_
  refine Sq.v (r_move (look_t rfl)) rfl rfl rfl ?_
  refine Sq.v (r_build (b := { (default : T_api_Value) with f_Lo := x0 }) rfl bu24 zr24 (.cons le_T_api_Value_Lo rfl (look_t rfl) rfl (.nil))) rfl rfl rfl ?_
  refine Sq.store (i := 0) (Lens.id T_api_Value) (v := ({ (default : T_api_Value) with f_Lo := x0 } : T_api_Value)) (b' := ({ (default : T_api_Value) with f_Lo := x0 } : T_api_Value)) ty24 (look_t rfl) (look_t rfl) rfl rfl rfl ?_
  refine Sq.nil ?_
  refine To.next ?_
  refine Wp.ret ?_
  replace h := some_in h
  subst h
  exact To.end1 rfl (rv_c (i := 0) ty24 rfl rfl)
set_option maxHeartbeats 2000000 in
theorem C_value_Left {x0 : T_api_Value} {x1 : Int}  {r : T_api_Value} (h : L_value_Left x0 x1 = some r) : Meets Try.prog 60 [VP.of (x0), VP.of (x1)] (VP.of (r)) := by
  unfold L_value_Left at h
  refine Meets.of Try.func60 rfl Try.ntmps60 rfl fun W A => ?_
  refine Wp.seq ?_
  refine Wp.reg ?_
  refine Sq.box (z := (x0 : T_api_Value)) (look_t rfl) rfl fun p1 => ?_
  refine Sq.alloc zr24 rfl fun p2 => ?_
  refine Sq.nil ?_
  refine To.next ?_
  refine Wp.seq ?_
  refine Wp.block ?_
  refine Wp.seq ?_
  refine Wp.reg ?_
  refine Sq.v (r_move (look_t rfl)) rfl rfl rfl ?_
  refine Sq.v (r_leq (look_t rfl) (look_int 0)) rfl rfl rfl ?_
  refine Sq.v (r_asg (look_t rfl)) rfl rfl rfl ?_
  refine Sq.nil ?_
  refine To.next ?_
  refine Wp.cond (look_t rfl) (fun hc => ?_) (fun hc => ?_)
  · replace h := cond_t hc h
    refine Wp.seq ?_
    refine Wp.reg ?_
    refine Sq.v (r_load (i := 1) (Lens.id T_api_Value) (r := x0) ty24 (look_t rfl) rfl rfl rfl) rfl rfl rfl ?_
    refine Sq.store (i := 0) (Lens.id T_api_Value) (v := (x0 : T_api_Value)) (b' := (x0 : T_api_Value)) ty24 (look_t rfl) (look_t rfl) rfl rfl rfl ?_
    refine Sq.nil ?_
    refine To.next ?_
    refine Wp.ret ?_
    refine To.bret ?_
    refine To.ret ?_
    replace h := some_in h
    subst h
    exact To.end1 rfl (rv_c (i := 0) ty24 rfl rfl)
  · replace h := cond_f hc h
    refine Wp.seq ?_
    refine Wp.reg ?_
    refine Sq.v (r_move (look_t rfl)) rfl rfl rfl ?_
    refine Sq.v (r_geq (look_t rfl) (look_int 64)) rfl rfl rfl ?_
    refine Sq.v (r_asg (look_t rfl)) rfl rfl rfl ?_
    refine Sq.nil ?_
    refine To.next ?_
    refine Wp.cond (look_t rfl) (fun hc => ?_) (fun hc => ?_)
    · replace h := cond_t hc h
      refine Wp.seq ?_
      refine Wp.reg ?_
      refine Sq.v (r_fa fd24_1 (look_t rfl)) rfl rfl rfl ?_
      refine Sq.v (r_load (i := 1) ((Lens.id T_api_Value).comp le_T_api_Value_Lo) (r := x0.f_Lo) ty22 (look_t rfl) rfl rfl rfl) rfl rfl rfl ?_
      refine Sq.v (r_move (look_t rfl)) rfl rfl rfl ?_
      refine Sq.v (r_sub (look_t rfl) (look_int 64)) rfl rfl rfl ?_
      refine Sq.v (r_ci64 Try.underlying3 Try.underlying117 (look_t rfl)) rfl rfl rfl ?_
      refine Sq.v (r_shl64 (look_t rfl) (look_t rfl)) rfl rfl rfl ?_
      obtain ⟨z1, hz1, h⟩ := bind_some h
      refine Sq.v ((r_build (b := { (default : T_api_Value) with f_Hi := x0.f_Lo <<< (BitVec.ofInt 64 (w64 (x1 - 64))).toNat }) rfl bu24 zr24 (.cons le_T_api_Value_Hi rfl (look_t rfl) rfl (.nil))).as (some_in hz1)) rfl rfl rfl ?_
      refine Sq.store (i := 0) (Lens.id T_api_Value) (v := (z1 : T_api_Value)) (b' := (z1 : T_api_Value)) ty24 (look_t rfl) (look_t rfl) rfl rfl rfl ?_
      refine Sq.nil ?_
      refine To.next ?_
      refine Wp.ret ?_
      refine To.bret ?_
      refine To.ret ?_
      replace h := some_in h
      subst h
      exact To.end1 rfl (rv_c (i := 0) ty24 rfl rfl)
    · replace h := cond_f hc h
      refine Wp.skip ?_
      refine To.bnorm ?_
      refine To.next ?_
      refine Wp.seq ?_
      refine Wp.reg ?_
      refine Sq.v (r_fa fd24_0 (look_t rfl)) rfl rfl rfl ?_
      refine Sq.v (r_load (i := 1) ((Lens.id T_api_Value).comp le_T_api_Value_Hi) (r := x0.f_Hi) ty22 (look_t rfl) rfl rfl rfl) rfl rfl rfl ?_
      refine Sq.v (r_move (look_t rfl)) rfl rfl rfl ?_
      refine Sq.v (r_ci64 Try.underlying3 Try.underlying117 (look_t rfl)) rfl rfl rfl ?_
      refine Sq.v (r_shl64 (look_t rfl) (look_t rfl)) rfl rfl rfl ?_
      refine Sq.v (r_fa fd24_1 (look_t rfl)) rfl rfl rfl ?_
      refine Sq.v (r_load (i := 1) ((Lens.id T_api_Value).comp le_T_api_Value_Lo) (r := x0.f_Lo) ty22 (look_t rfl) rfl rfl rfl) rfl rfl rfl ?_
      refine Sq.v (r_move (look_t rfl)) rfl rfl rfl ?_
      refine Sq.v (r_sub (look_int 64) (look_t rfl)) rfl rfl rfl ?_
      refine Sq.v (r_ci64 Try.underlying3 Try.underlying117 (look_t rfl)) rfl rfl rfl ?_
      refine Sq.v (r_shr64 (look_t rfl) (look_t rfl)) rfl rfl rfl ?_
      obtain ⟨z2, hz2, h⟩ := bind_some h
      refine Sq.v ((r_or64 (look_t rfl) (look_t rfl)).as (some_in hz2)) rfl rfl rfl ?_
      refine Sq.v (r_fa fd24_1 (look_t rfl)) rfl rfl rfl ?_
      refine Sq.v (r_load (i := 1) ((Lens.id T_api_Value).comp le_T_api_Value_Lo) (r := x0.f_Lo) ty22 (look_t rfl) rfl rfl rfl) rfl rfl rfl ?_
      refine Sq.v (r_move (look_t rfl)) rfl rfl rfl ?_
      refine Sq.v (r_ci64 Try.underlying3 Try.underlying117 (look_t rfl)) rfl rfl rfl ?_
      refine Sq.v (r_shl64 (look_t rfl) (look_t rfl)) rfl rfl rfl ?_
      obtain ⟨z3, hz3, h⟩ := bind_some h
      refine Sq.v ((r_build (b := { f_Hi := z2, f_Lo := x0.f_Lo <<< (BitVec.ofInt 64 x1).toNat : T_api_Value }) rfl bu24 zr24 (.cons le_T_api_Value_Hi rfl (look_t rfl) rfl (.cons le_T_api_Value_Lo rfl (look_t rfl) rfl (.nil)))).as (some_in hz3)) rfl rfl rfl ?_
      refine Sq.store (i := 0) (Lens.id T_api_Value) (v := (z3 : T_api_Value)) (b' := (z3 : T_api_Value)) ty24 (look_t rfl) (look_t rfl) rfl rfl rfl ?_
      refine Sq.nil ?_
      refine To.next ?_
      refine Wp.ret ?_
      replace h := some_in h
      subst h
      exact To.end1 rfl (rv_c (i := 0) ty24 rfl rfl)
set_option maxHeartbeats 2000000 in
theorem C_ref25_Meet {x0 : Vector (BitVec 8) 512} {x1 : Vector (BitVec 8) 512}  {r : (Vector (BitVec 8) 512) × Bool} (h : L_ref25_Meet x0 x1 = some r) : Meets Try.prog 26 [VP.of (x0), VP.of (x1)] (VP.tup [VP.of (r.1), VP.of (r.2)]) := by
  unfold L_ref25_Meet at h
  refine Meets.of Try.func26 rfl Try.ntmps26 rfl fun W A => ?_
  refine Wp.seq ?_
  refine Wp.reg ?_
  refine Sq.box (z := (x0 : Vector (BitVec 8) 512)) (look_t rfl) rfl fun p1 => ?_
  refine Sq.box (z := (x1 : Vector (BitVec 8) 512)) (look_t rfl) rfl fun p2 => ?_
  refine Sq.alloc zr36 rfl fun p3 => ?_
  refine Sq.v (r_asg (look_bool false)) rfl rfl rfl ?_
  refine Sq.nil ?_
  refine To.next ?_
  refine Wp.seq ?_
  refine Wp.seq ?_
  refine Wp.reg ?_
  refine Sq.v (r_move (look_int 0)) rfl rfl rfl ?_
  refine Sq.nil ?_
  refine To.next ?_
  refine Wp.block ?_
  obtain ⟨e1, hl, h⟩ := bind_some h
  refine Wp.loopG (σ := Int × (Vector (BitVec 8) 512)) (ε := (Int × Bool × (Vector (BitVec 8) 512)) ⊕ (Int × Int × Bool × Bool × Bool × (Vector (BitVec 8) 512))) (γ := Unit) (δ := Unit) hl (fun s1 g1 => [(0, VP.of (x0)), (1, VP.of (x1)), (2, VP.eq (.pointer (some ⟨p1, 0, none⟩))), (3, VP.eq (.pointer (some ⟨p2, 0, none⟩))), (4, VP.eq (.pointer (some ⟨p3, 0, none⟩))), (5, VP.of (false)), (7, VP.of (s1.1))]) (fun s1 g1 => [⟨some p3, .var ((default : Vector (BitVec 8) 512) : Vector (BitVec 8) 512)⟩, ⟨some p2, .var (x1 : Vector (BitVec 8) 512)⟩, ⟨some p1, .var (s1.2 : Vector (BitVec 8) 512)⟩]) (fun q1 => Sum.elim (fun q1 => Exit.exit 0) (fun q1 => Exit.ret) q1) (fun q1 g1 => Sum.elim (fun q1 => [(0, VP.of (x0)), (1, VP.of (x1)), (2, VP.eq (.pointer (some ⟨p1, 0, none⟩))), (3, VP.eq (.pointer (some ⟨p2, 0, none⟩))), (4, VP.eq (.pointer (some ⟨p3, 0, none⟩))), (5, VP.of (false)), (7, VP.of (q1.1)), (8, VP.of (q1.2.1))]) (fun q1 => [(0, VP.of (x0)), (1, VP.of (x1)), (2, VP.eq (.pointer (some ⟨p1, 0, none⟩))), (3, VP.eq (.pointer (some ⟨p2, 0, none⟩))), (4, VP.eq (.pointer (some ⟨p3, 0, none⟩))), (5, VP.of (false)), (6, VP.of (q1.1)), (7, VP.of (q1.2.1)), (8, VP.of (q1.2.2.1)), (10, VP.of (q1.2.2.2.1)), (20, VP.of (q1.2.2.2.2.1))]) q1) (fun q1 g1 => Sum.elim (fun q1 => [⟨some p3, .var ((default : Vector (BitVec 8) 512) : Vector (BitVec 8) 512)⟩, ⟨some p2, .var (x1 : Vector (BitVec 8) 512)⟩, ⟨some p1, .var (q1.2.2 : Vector (BitVec 8) 512)⟩]) (fun q1 => [⟨some p3, .var ((default : Vector (BitVec 8) 512) : Vector (BitVec 8) 512)⟩, ⟨some p2, .var (x1 : Vector (BitVec 8) 512)⟩, ⟨some p1, .var (q1.2.2.2.2.2 : Vector (BitVec 8) 512)⟩]) q1) () rfl (.same rfl (.same rfl (.same rfl (.same rfl (.same rfl (.same rfl (.same rfl .nil))))))) (fun s1 r h g1 => ?_) (fun g1 => ?_)
  · clear hl
    refine Wp.seq ?_
    refine Wp.reg ?_
    refine Sq.v (r_lss (look_t rfl) (look_int 512)) rfl rfl rfl ?_
    refine Sq.nil ?_
    refine To.next ?_
    refine Wp.seq ?_
    refine Wp.cond (look_t rfl) (fun hc => ?_) (fun hc => ?_)
    · replace h := cond_t hc h
      refine Wp.skip ?_
      refine To.next ?_
      refine Wp.seq ?_
      refine Wp.block ?_
      refine Wp.seq ?_
      refine Wp.reg ?_
      refine Sq.v (r_move (look_t rfl)) rfl rfl rfl ?_
      refine Sq.v (r_asg (look_t rfl)) rfl rfl rfl ?_
      refine Sq.nil ?_
      refine To.next ?_
      refine Wp.block ?_
      refine Wp.seq ?_
      refine Wp.reg ?_
      refine Sq.v (r_move (look_t rfl)) rfl rfl rfl ?_
      obtain ⟨k1, hk1, h⟩ := bind_some h
      refine Sq.v (r_ia (k := k1) ar36 (look_t rfl) (look_t rfl) (idx_some hk1)) rfl rfl rfl ?_
      refine Sq.v (r_load (i := 2) ((Lens.id (Vector (BitVec 8) 512)).comp (Lens.idx (α := BitVec 8) 512 k1 (idx_some hk1).1)) (r := vget s1.2 k1) ty5 (look_t rfl) rfl rfl rfl) rfl rfl rfl ?_
      refine Sq.v (r_eql8 (look_t rfl) (look_u8 2 rfl)) rfl rfl rfl ?_
      refine Sq.v (r_asg (look_t rfl)) rfl rfl rfl ?_
      refine Sq.nil ?_
      refine To.next ?_
      refine Wp.cond (look_t rfl) (fun hc => ?_) (fun hc => ?_)
      · replace h := cond_t hc h
        refine Wp.reg ?_
        refine Sq.v (r_move (look_t rfl)) rfl rfl rfl ?_
        refine Sq.v (r_move (look_t rfl)) rfl rfl rfl ?_
        obtain ⟨k2, hk2, h⟩ := bind_some h
        refine Sq.v (r_ia (k := k2) ar36 (look_t rfl) (look_t rfl) (idx_some hk2)) rfl rfl rfl ?_
        refine Sq.v (r_load (i := 1) ((Lens.id (Vector (BitVec 8) 512)).comp (Lens.idx (α := BitVec 8) 512 k2 (idx_some hk2).1)) (r := vget x1 k2) ty5 (look_t rfl) rfl rfl rfl) rfl rfl rfl ?_
        obtain ⟨k3, hk3, h⟩ := bind_some h
        refine Sq.v (r_ia (k := k3) ar36 (look_t rfl) (look_t rfl) (idx_some hk3)) rfl rfl rfl ?_
        refine Sq.store (i := 2) ((Lens.id (Vector (BitVec 8) 512)).comp (Lens.idx (α := BitVec 8) 512 k3 (idx_some hk3).1)) (v := (vget x1 k2 : BitVec 8)) (b' := (vset s1.2 k3 (vget x1 k2) : Vector (BitVec 8) 512)) ty5 (look_t rfl) (look_t rfl) rfl rfl rfl ?_
        refine Sq.nil ?_
        refine To.bnorm ?_
        refine To.bnorm ?_
        refine To.next ?_
        refine Wp.reg ?_
        refine Sq.v (r_add (look_t rfl) (look_int 1)) rfl rfl rfl ?_
        refine Sq.v (r_move (look_t rfl)) rfl rfl rfl ?_
        refine Sq.nil ?_
        replace h := some_in h
        subst h
        exact To.roundG () 0 rfl (.same rfl (.same rfl (.same rfl (.same rfl (.same rfl (.same rfl (.same rfl .nil)))))))
      · replace h := cond_f hc h
        refine Wp.seq ?_
        obtain ⟨k4, hk4, h⟩ := bind_some h
        obtain ⟨k5, hk5, h⟩ := bind_some h
        obtain ⟨k6, hk6, h⟩ := bind_some h
        refine Wp.draw mixed 13 [some 21, some 22, some 23, some 24, some 25, some 26, some 27, some 28, some 29, some 30, some 31, some 32, some 33] [[], [0], [1], [2], [3], [4], [4, 5], [4, 6], [4], [4, 8], [4, 9], [4, 7, 10], [4, 11]] [.val (VP.of (s1.1)), .val (VP.eq (.pointer (some ⟨p2, 0 + k4 * 1, none⟩))), .val (VP.of (vget x1 k4)), .val (VP.of ((vget x1 k4) != (2#8))), .val (VP.of ((vget x1 k4) != (2#8))), .val (VP.cond (((vget x1 k4) != (2#8)) = true) (VP.of (s1.1))), .val (VP.cond (((vget x1 k4) != (2#8)) = true) (VP.eq (.pointer (some ⟨p1, 0 + k5 * 1, none⟩)))), .val (VP.cond (((vget x1 k4) != (2#8)) = true) (VP.of (vget s1.2 k5))), .val (VP.cond (((vget x1 k4) != (2#8)) = true) (VP.of (s1.1))), .val (VP.cond (((vget x1 k4) != (2#8)) = true) (VP.eq (.pointer (some ⟨p2, 0 + k6 * 1, none⟩)))), .val (VP.cond (((vget x1 k4) != (2#8)) = true) (VP.of (vget x1 k6))), .val (VP.cond (((vget x1 k4) != (2#8)) = true) (VP.of ((vget s1.2 k5) != (vget x1 k6)))), .val (VP.of (((vget x1 k4) != (2#8)) && ((vget s1.2 k5) != (vget x1 k6))))] [false, false, false, false, false, false, false, false, false, false, false, false, false] (by kernel_rfl) rfl rfl rfl (fun ps1 => ⟨fun L' hL => HO.v (r_move (look_t rfl)) rfl, fun L' hL => HO.v (r_ia (k := k4) ar36 (look_t rfl) (look_t rfl) (idx_some hk4)) rfl, fun L' hL => HO.v (r_load (i := 1) ((Lens.id (Vector (BitVec 8) 512)).comp (Lens.idx (α := BitVec 8) 512 k4 (idx_some hk4).1)) (r := vget x1 k4) ty5 (look_t rfl) (hL _ _ rfl rfl) rfl rfl) rfl, fun L' hL => HO.v (r_neq8 (look_t rfl) (look_u8 2 rfl)) rfl, fun L' hL => HO.v (r_move (look_t rfl)) rfl, fun L' hL => HO.g (fun hb => r_move (look_t rfl)) rfl rfl rfl, fun L' hL => HO.g (fun hb => r_ia (k := k5) ar36 (look_t rfl) (look_tc rfl hb) (idx_some (condM_some hk5 hb))) rfl rfl rfl, fun L' hL => HO.g (fun hb => r_load (i := 2) ((Lens.id (Vector (BitVec 8) 512)).comp (Lens.idx (α := BitVec 8) 512 k5 (idx_some (condM_some hk5 hb)).1)) (r := vget s1.2 k5) ty5 (look_tc rfl hb) (hL _ _ rfl rfl) rfl rfl) rfl rfl rfl, fun L' hL => HO.g (fun hb => r_move (look_t rfl)) rfl rfl rfl, fun L' hL => HO.g (fun hb => r_ia (k := k6) ar36 (look_t rfl) (look_tc rfl hb) (idx_some (condM_some hk6 hb))) rfl rfl rfl, fun L' hL => HO.g (fun hb => r_load (i := 1) ((Lens.id (Vector (BitVec 8) 512)).comp (Lens.idx (α := BitVec 8) 512 k6 (idx_some (condM_some hk6 hb)).1)) (r := vget x1 k6) ty5 (look_tc rfl hb) (hL _ _ rfl rfl) rfl rfl) rfl rfl rfl, fun L' hL => HO.g (fun hb => r_neq8 (look_tc rfl hb) (look_tc rfl hb)) rfl rfl rfl, fun L' hL => HO.v (r_and (look_t rfl) (look_t rfl) (fun h => h)) rfl, trivial⟩) fun ps1 => ?_
        refine Sq.v (r_asg (look_t rfl)) rfl rfl rfl ?_
        refine Sq.nil ?_
        refine To.next ?_
        refine Wp.cond (look_t rfl) (fun hc => ?_) (fun hc => ?_)
        · replace h := cond_t hc h
          refine Wp.seq ?_
          refine Wp.reg ?_
          refine Sq.v (r_buildA (b := (default : Vector (BitVec 8) 512)) (sz := 1) rfl Try.underlying36 (by kernel_rfl) zr36 (.nil)) rfl rfl rfl ?_
          refine Sq.store (i := 0) (Lens.id (Vector (BitVec 8) 512)) (v := ((default : Vector (BitVec 8) 512) : Vector (BitVec 8) 512)) (b' := ((default : Vector (BitVec 8) 512) : Vector (BitVec 8) 512)) ty36 (look_t rfl) (look_t rfl) rfl rfl rfl ?_
          refine Sq.v (r_asg (look_bool false)) rfl rfl rfl ?_
          refine Sq.nil ?_
          refine To.next ?_
          refine Wp.ret ?_
          refine To.bret ?_
          refine To.bret ?_
          refine To.ret ?_
          replace h := some_in h
          subst h
          exact To.leaveG () 0 rfl (by simp) rfl (.same rfl (.same rfl (.same rfl (.same rfl (.same rfl (.same rfl (.same rfl (.same rfl (.same rfl (.same rfl (.same rfl .nil)))))))))))
        · replace h := cond_f hc h
          refine Wp.skip ?_
          refine To.bnorm ?_
          refine To.bnorm ?_
          refine To.next ?_
          refine Wp.reg ?_
          refine Sq.v (r_add (look_t rfl) (look_int 1)) rfl rfl rfl ?_
          refine Sq.v (r_move (look_t rfl)) rfl rfl rfl ?_
          refine Sq.nil ?_
          replace h := some_in h
          subst h
          exact To.roundG () 0 rfl (.same rfl (.same rfl (.same rfl (.same rfl (.same rfl (.same rfl (.same rfl .nil)))))))
    · replace h := cond_f hc h
      refine Wp.exit ?_
      refine To.exit ?_
      replace h := some_in h
      subst h
      exact To.leaveG () 0 rfl (by simp) rfl (.same rfl (.same rfl (.same rfl (.same rfl (.same rfl (.same rfl (.same rfl (.same rfl .nil))))))))
  · clear hl
    rcases e1 with e1 | e1
    · simp only [Sum.elim_inl] at h
      refine To.bexit ?_
      refine To.next ?_
      refine Wp.seq ?_
      refine Wp.reg ?_
      refine Sq.v (r_load (i := 2) (Lens.id (Vector (BitVec 8) 512)) (r := e1.2.2) ty36 (look_t rfl) rfl rfl rfl) rfl rfl rfl ?_
      refine Sq.store (i := 0) (Lens.id (Vector (BitVec 8) 512)) (v := (e1.2.2 : Vector (BitVec 8) 512)) (b' := (e1.2.2 : Vector (BitVec 8) 512)) ty36 (look_t rfl) (look_t rfl) rfl rfl rfl ?_
      refine Sq.v (r_asg (look_bool true)) rfl rfl rfl ?_
      refine Sq.nil ?_
      refine To.next ?_
      refine Wp.ret ?_
      replace h := some_in h
      subst h
      exact To.end2 rfl (rv_c (i := 0) ty36 rfl rfl) (rv_t rfl)
    · simp only [Sum.elim_inr] at h
      refine To.bret ?_
      refine To.ret ?_
      replace h := some_in h
      subst h
      exact To.end2 rfl (rv_c (i := 0) ty36 rfl rfl) (rv_t rfl)
end Go.Proofs.Ytabodolbdalimaa
