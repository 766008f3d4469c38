/-
  Printed by the decompiler (dec.py) out of the seat's translation. Each function meets its functional program. Conditions: none.
-/
import Derived.Test.YtabodolbdalimaaDl
namespace Go.Proofs.Ytabodolbdalimaa
open Go Gv
set_option linter.unusedVariables false
set_option linter.unusedSimpArgs false
set_option maxRecDepth 100000
set_option maxHeartbeats 2000000 in
theorem C_ref04_index {x0 : List Int} {x1 : Int}  {r : Int} (h : L_ref04_index x0 x1 = some r) : Meets Try.prog 108 [VP.of (x0), VP.of (x1)] (VP.of (r)) := by
  unfold L_ref04_index at h
  refine Meets.of Try.func108 rfl Try.ntmps108 rfl fun W A => ?_
  refine Wp.seq ?_
  refine Wp.reg ?_
  refine Sq.v (r_asg (look_int 0)) rfl rfl rfl ?_
  refine Sq.nil ?_
  refine To.next ?_
  refine Wp.seq ?_
  refine Wp.seq ?_
  refine Wp.reg ?_
  refine Sq.v (r_move (look_t rfl)) rfl rfl rfl ?_
  refine Sq.v (r_len Try.underlying43 (look_t rfl)) rfl rfl rfl ?_
  refine Sq.v (r_move (look_int 0)) rfl rfl rfl ?_
  refine Sq.nil ?_
  refine To.next ?_
  refine Wp.block ?_
  obtain ⟨e1, hl, h⟩ := bind_some h
  refine Wp.loopG (σ := Int) (ε := (Int × Bool) ⊕ (Int × Int × Int × Int × Bool × Bool)) (γ := Unit) (δ := Unit) hl (fun s1 g1 => [(0, VP.of (x0)), (1, VP.of (x1)), (4, VP.of (0 : Int)), (7, VP.of (x0)), (8, VP.of (x0.length : Int)), (9, VP.of (s1))]) (fun s1 g1 => []) (fun q1 => Sum.elim (fun q1 => Exit.exit 0) (fun q1 => Exit.ret) q1) (fun q1 g1 => Sum.elim (fun q1 => [(0, VP.of (x0)), (1, VP.of (x1)), (4, VP.of (0 : Int)), (7, VP.of (x0)), (8, VP.of (x0.length : Int)), (9, VP.of (q1.1)), (10, VP.of (q1.2))]) (fun q1 => [(0, VP.of (x0)), (1, VP.of (x1)), (4, VP.of (q1.1)), (5, VP.of (q1.2.1)), (6, VP.of (q1.2.2.1)), (7, VP.of (x0)), (8, VP.of (x0.length : Int)), (9, VP.of (q1.2.2.2.1)), (10, VP.of (q1.2.2.2.2.1)), (16, VP.of (q1.2.2.2.2.2))]) q1) (fun q1 g1 => Sum.elim (fun q1 => []) (fun q1 => []) q1) () rfl (.same rfl (.same rfl (.same rfl (.same rfl (.same rfl (.same rfl .nil)))))) (fun s1 r h g1 => ?_) (fun g1 => ?_)
  · clear hl
    refine Wp.seq ?_
    refine Wp.reg ?_
    refine Sq.v (r_lss (look_t rfl) (look_t rfl)) rfl rfl rfl ?_
    refine Sq.nil ?_
    refine To.next ?_
    refine Wp.seq ?_
    refine Wp.cond (look_t rfl) (fun hc => ?_) (fun hc => ?_)
    · replace h := cond_t hc h
      refine Wp.skip ?_
      refine To.next ?_
      refine Wp.seq ?_
      refine Wp.block ?_
      refine Wp.seq ?_
      refine Wp.reg ?_
      refine Sq.v (r_move (look_t rfl)) rfl rfl rfl ?_
      obtain ⟨k1, hk1, h⟩ := bind_some h
      refine Sq.v (r_ias (k := k1) Try.underlying43 ty3 (look_t rfl) (look_t rfl) (idx_some hk1)) rfl rfl rfl ?_
      refine Sq.v (r_loadp ty3 (look_t rfl)) rfl rfl rfl ?_
      refine Sq.v (r_asg (look_t rfl)) rfl rfl rfl ?_
      refine Sq.v (r_asg (look_t rfl)) rfl rfl rfl ?_
      refine Sq.nil ?_
      refine To.next ?_
      refine Wp.seq ?_
      refine Wp.reg ?_
      refine Sq.v (r_move (look_t rfl)) rfl rfl rfl ?_
      refine Sq.v (r_move (look_t rfl)) rfl rfl rfl ?_
      refine Sq.v (r_eql (look_t rfl) (look_t rfl)) rfl rfl rfl ?_
      refine Sq.nil ?_
      refine To.next ?_
      refine Wp.cond (look_t rfl) (fun hc => ?_) (fun hc => ?_)
      · replace h := cond_t hc h
        refine Wp.seq ?_
        refine Wp.reg ?_
        refine Sq.v (r_move (look_t rfl)) rfl rfl rfl ?_
        refine Sq.v (r_asg (look_t rfl)) rfl rfl rfl ?_
        refine Sq.nil ?_
        refine To.next ?_
        refine Wp.ret ?_
        refine To.bret ?_
        refine To.ret ?_
        replace h := some_in h
        subst h
        exact To.leaveG () 0 rfl (by simp) rfl (.same rfl (.same rfl (.same rfl (.same rfl (.same rfl (.same rfl (.same rfl (.same rfl (.same rfl (.same rfl .nil))))))))))
      · replace h := cond_f hc h
        refine Wp.skip ?_
        refine To.bnorm ?_
        refine To.next ?_
        refine Wp.reg ?_
        refine Sq.v (r_add (look_t rfl) (look_int 1)) rfl rfl rfl ?_
        refine Sq.v (r_move (look_t rfl)) rfl rfl rfl ?_
        refine Sq.nil ?_
        replace h := some_in h
        subst h
        exact To.roundG () 0 rfl (.same rfl (.same rfl (.same rfl (.same rfl (.same rfl (.same rfl .nil))))))
    · replace h := cond_f hc h
      refine Wp.exit ?_
      refine To.exit ?_
      replace h := some_in h
      subst h
      exact To.leaveG () 0 rfl (by simp) rfl (.same rfl (.same rfl (.same rfl (.same rfl (.same rfl (.same rfl (.same rfl .nil)))))))
  · clear hl
    rcases e1 with e1 | e1
    · simp only [Sum.elim_inl] at h
      refine To.bexit ?_
      refine To.next ?_
      refine Wp.seq ?_
      refine Wp.reg ?_
      refine Sq.v (r_asg (look_int (-1))) rfl rfl rfl ?_
      refine Sq.nil ?_
      refine To.next ?_
      refine Wp.ret ?_
      replace h := some_in h
      subst h
      exact To.end1 rfl (rv_t rfl)
    · simp only [Sum.elim_inr] at h
      refine To.bret ?_
      refine To.ret ?_
      replace h := some_in h
      subst h
      exact To.end1 rfl (rv_t rfl)
set_option maxHeartbeats 2000000 in
theorem C_ref01_clamp {x0 : Int}  {r : Int} (h : L_ref01_clamp x0 = some r) : Meets Try.prog 64 [VP.of (x0)] (VP.of (r)) := by
  unfold L_ref01_clamp at h
  refine Meets.of Try.func64 rfl Try.ntmps64 rfl fun W A => ?_
  refine Wp.seq ?_
  refine Wp.reg ?_
  refine Sq.v (r_asg (look_int 0)) rfl rfl rfl ?_
  refine Sq.nil ?_
  refine To.next ?_
  refine Wp.seq ?_
  refine Wp.reg ?_
  refine Sq.v (r_move (look_t rfl)) rfl rfl rfl ?_
  refine Sq.v (r_min (look_t rfl) (look_int 128)) rfl rfl rfl ?_
  refine Sq.v (r_max (look_int 0) (look_t rfl)) rfl rfl rfl ?_
  refine Sq.v (r_asg (look_t rfl)) rfl rfl rfl ?_
  refine Sq.nil ?_
  refine To.next ?_
  refine Wp.ret ?_
  replace h := some_in h
  subst h
  exact To.end1 rfl (rv_t rfl)
set_option maxHeartbeats 2000000 in
theorem C_ref01_Make {x0 : Vector Bool 128}  {r : T_api_Value} (h : L_ref01_Make x0 = some r) : Meets Try.prog 63 [VP.of (x0)] (VP.of (r)) := by
  unfold L_ref01_Make at h
  refine Meets.of Try.func63 rfl Try.ntmps63 rfl fun W A => ?_
  refine Wp.seq ?_
  refine Wp.reg ?_
  refine Sq.box (z := (x0 : Vector Bool 128)) (look_t rfl) rfl fun p1 => ?_
  refine Sq.alloc zr24 rfl fun p2 => ?_
  refine Sq.nil ?_
  refine To.next ?_
  refine Wp.seq ?_
  refine Wp.reg ?_
  refine Sq.alloc zr24 rfl fun p3 => ?_
  refine Sq.nil ?_
  refine To.next ?_
  refine Wp.seq ?_
  refine Wp.seq ?_
  refine Wp.reg ?_
  refine Sq.v (r_asg (look_int 0)) rfl rfl rfl ?_
  refine Sq.nil ?_
  refine To.next ?_
  refine Wp.block ?_
  obtain ⟨e1, hl, h⟩ := bind_some h
  refine Wp.loopG (σ := Int × T_api_Value) (ε := (Int × Bool × T_api_Value)) (γ := Unit) (δ := Unit) hl (fun s1 g1 => [(0, VP.of (x0)), (1, VP.eq (.pointer (some ⟨p1, 0, none⟩))), (2, VP.eq (.pointer (some ⟨p2, 0, none⟩))), (3, VP.eq (.pointer (some ⟨p3, 0, none⟩))), (4, VP.of (s1.1))]) (fun s1 g1 => [⟨some p3, .var (s1.2 : T_api_Value)⟩, ⟨some p2, .var ((default : T_api_Value) : T_api_Value)⟩, ⟨some p1, .var (x0 : Vector Bool 128)⟩]) (fun q1 => Exit.exit 0) (fun q1 g1 => [(0, VP.of (x0)), (1, VP.eq (.pointer (some ⟨p1, 0, none⟩))), (2, VP.eq (.pointer (some ⟨p2, 0, none⟩))), (3, VP.eq (.pointer (some ⟨p3, 0, none⟩))), (4, VP.of (q1.1)), (6, VP.of (q1.2.1))]) (fun q1 g1 => [⟨some p3, .var (q1.2.2 : T_api_Value)⟩, ⟨some p2, .var ((default : T_api_Value) : T_api_Value)⟩, ⟨some p1, .var (x0 : Vector Bool 128)⟩]) () rfl (.same rfl (.same rfl (.same rfl (.same rfl (.same rfl .nil))))) (fun s1 r h g1 => ?_) (fun g1 => ?_)
  · clear hl
    refine Wp.seq ?_
    refine Wp.seq ?_
    refine Wp.reg ?_
    refine Sq.v (r_move (look_t rfl)) rfl rfl rfl ?_
    refine Sq.v (r_lss (look_t rfl) (look_int 64)) rfl rfl rfl ?_
    refine Sq.nil ?_
    refine To.next ?_
    refine Wp.cond (look_t rfl) (fun hc => ?_) (fun hc => ?_)
    · replace h := cond_t hc h
      refine Wp.skip ?_
      refine To.next ?_
      refine Wp.seq ?_
      refine Wp.block ?_
      refine Wp.seq ?_
      refine Wp.seq ?_
      refine Wp.reg ?_
      refine Sq.v (r_move (look_t rfl)) rfl rfl rfl ?_
      obtain ⟨k1, hk1, h⟩ := bind_some h
      refine Sq.v (r_ia (k := k1) ar111 (look_t rfl) (look_t rfl) (idx_some hk1)) rfl rfl rfl ?_
      refine Sq.v (r_load (i := 2) ((Lens.id (Vector Bool 128)).comp (Lens.idx (α := Bool) 128 k1 (idx_some hk1).1)) (r := vget x0 k1) ty4 (look_t rfl) rfl rfl rfl) rfl rfl rfl ?_
      refine Sq.nil ?_
      refine To.next ?_
      obtain ⟨m1, hm1, h⟩ := bind_some h
      refine Wp.condM (γ := Unit) (fun g2 => [(0, VP.of (x0)), (1, VP.eq (.pointer (some ⟨p1, 0, none⟩))), (2, VP.eq (.pointer (some ⟨p2, 0, none⟩))), (3, VP.eq (.pointer (some ⟨p3, 0, none⟩))), (4, VP.of (s1.1)), (6, VP.of (decide (s1.1 < 64))), (11, VP.of (vget x0 k1))]) (fun g2 => [⟨some p3, .var (m1 : T_api_Value)⟩, ⟨some p2, .var ((default : T_api_Value) : T_api_Value)⟩, ⟨some p1, .var (x0 : Vector Bool 128)⟩]) (look_t rfl) (fun g2 => ?_) (fun hm hc => ?_) (fun hm hc => ?_)
      · clear hm1
        refine To.next ?_
        refine Wp.seq ?_
        refine Wp.reg ?_
        refine Sq.v (r_move (look_t rfl)) rfl rfl rfl ?_
        refine Sq.v (r_add (look_t rfl) (look_int 64)) rfl rfl rfl ?_
        obtain ⟨k2, hk2, h⟩ := bind_some h
        refine Sq.v (r_ia (k := k2) ar111 (look_t rfl) (look_t rfl) (idx_some hk2)) rfl rfl rfl ?_
        refine Sq.v (r_load (i := 2) ((Lens.id (Vector Bool 128)).comp (Lens.idx (α := Bool) 128 k2 (idx_some hk2).1)) (r := vget x0 k2) ty4 (look_t rfl) rfl rfl rfl) rfl rfl rfl ?_
        refine Sq.nil ?_
        refine To.next ?_
        obtain ⟨m2, hm2, h⟩ := bind_some h
        refine Wp.condM (γ := Unit) (fun g3 => [(0, VP.of (x0)), (1, VP.eq (.pointer (some ⟨p1, 0, none⟩))), (2, VP.eq (.pointer (some ⟨p2, 0, none⟩))), (3, VP.eq (.pointer (some ⟨p3, 0, none⟩))), (4, VP.of (s1.1)), (6, VP.of (decide (s1.1 < 64))), (11, VP.of (vget x0 k1)), (22, VP.of (vget x0 k2))]) (fun g3 => [⟨some p3, .var (m2 : T_api_Value)⟩, ⟨some p2, .var ((default : T_api_Value) : T_api_Value)⟩, ⟨some p1, .var (x0 : Vector Bool 128)⟩]) (look_t rfl) (fun g3 => ?_) (fun hm hc => ?_) (fun hm hc => ?_)
        · clear hm2
          refine To.bnorm ?_
          refine To.next ?_
          refine Wp.reg ?_
          refine Sq.v (r_move (look_t rfl)) rfl rfl rfl ?_
          refine Sq.v (r_add (look_t rfl) (look_int 1)) rfl rfl rfl ?_
          refine Sq.v (r_asg (look_t rfl)) rfl rfl rfl ?_
          refine Sq.nil ?_
          replace h := some_in h
          subst h
          exact To.roundG () 0 rfl (.same rfl (.same rfl (.same rfl (.same rfl (.same rfl .nil)))))
        · have h := cond_t hc hm2
          refine Wp.reg ?_
          refine Sq.v (r_fa fd24_0 (look_t rfl)) rfl rfl rfl ?_
          refine Sq.v (r_load (i := 0) ((Lens.id T_api_Value).comp le_T_api_Value_Hi) (r := m1.f_Hi) ty22 (look_t rfl) rfl rfl rfl) rfl rfl rfl ?_
          refine Sq.v (r_move (look_t rfl)) rfl rfl rfl ?_
          refine Sq.v (r_ci64 Try.underlying3 Try.underlying117 (look_t rfl)) rfl rfl rfl ?_
          refine Sq.v (r_shl64 (look_u64 1 rfl) (look_t rfl)) rfl rfl rfl ?_
          refine Sq.v (r_or64 (look_t rfl) (look_t rfl)) rfl rfl rfl ?_
          refine Sq.v (r_fa fd24_0 (look_t rfl)) rfl rfl rfl ?_
          obtain ⟨z1, hz1, h⟩ := bind_some h
          refine Sq.store (i := 0) ((Lens.id T_api_Value).comp le_T_api_Value_Hi) (v := (m1.f_Hi ||| ((1#64) <<< (BitVec.ofInt 64 s1.1).toNat) : BitVec 64)) (b' := (z1 : T_api_Value)) ty22 (look_t rfl) (look_t rfl) rfl rfl (some_in hz1) ?_
          refine Sq.nil ?_
          replace h := some_in h
          subst h
          exact To.meet 0 rfl (.same rfl (.same rfl (.same rfl (.same rfl (.same rfl (.same rfl (.same rfl (.same rfl .nil)))))))) (hm ())
        · have h := cond_f hc hm2
          refine Wp.skip ?_
          replace h := some_in h
          subst h
          exact To.meet 0 rfl (.same rfl (.same rfl (.same rfl (.same rfl (.same rfl (.same rfl (.same rfl (.same rfl .nil)))))))) (hm ())
      · have h := cond_t hc hm1
        refine Wp.reg ?_
        refine Sq.v (r_fa fd24_1 (look_t rfl)) rfl rfl rfl ?_
        refine Sq.v (r_load (i := 0) ((Lens.id T_api_Value).comp le_T_api_Value_Lo) (r := s1.2.f_Lo) ty22 (look_t rfl) rfl rfl rfl) rfl rfl rfl ?_
        refine Sq.v (r_move (look_t rfl)) rfl rfl rfl ?_
        refine Sq.v (r_ci64 Try.underlying3 Try.underlying117 (look_t rfl)) rfl rfl rfl ?_
        refine Sq.v (r_shl64 (look_u64 1 rfl) (look_t rfl)) rfl rfl rfl ?_
        refine Sq.v (r_or64 (look_t rfl) (look_t rfl)) rfl rfl rfl ?_
        refine Sq.v (r_fa fd24_1 (look_t rfl)) rfl rfl rfl ?_
        obtain ⟨z2, hz2, h⟩ := bind_some h
        refine Sq.store (i := 0) ((Lens.id T_api_Value).comp le_T_api_Value_Lo) (v := (s1.2.f_Lo ||| ((1#64) <<< (BitVec.ofInt 64 s1.1).toNat) : BitVec 64)) (b' := (z2 : T_api_Value)) ty22 (look_t rfl) (look_t rfl) rfl rfl (some_in hz2) ?_
        refine Sq.nil ?_
        replace h := some_in h
        subst h
        exact To.meet 0 rfl (.same rfl (.same rfl (.same rfl (.same rfl (.same rfl (.same rfl (.same rfl .nil))))))) (hm ())
      · have h := cond_f hc hm1
        refine Wp.skip ?_
        replace h := some_in h
        subst h
        exact To.meet 0 rfl (.same rfl (.same rfl (.same rfl (.same rfl (.same rfl (.same rfl (.same rfl .nil))))))) (hm ())
    · replace h := cond_f hc h
      refine Wp.exit ?_
      refine To.exit ?_
      replace h := some_in h
      subst h
      exact To.leaveG () 0 rfl (by simp) rfl (.same rfl (.same rfl (.same rfl (.same rfl (.same rfl (.same rfl .nil))))))
  · clear hl
    refine To.bexit ?_
    refine To.next ?_
    refine Wp.seq ?_
    refine Wp.reg ?_
    refine Sq.v (r_load (i := 0) (Lens.id T_api_Value) (r := e1.2.2) ty24 (look_t rfl) rfl rfl rfl) rfl rfl rfl ?_
    refine Sq.store (i := 1) (Lens.id T_api_Value) (v := (e1.2.2 : T_api_Value)) (b' := (e1.2.2 : T_api_Value)) ty24 (look_t rfl) (look_t rfl) rfl rfl rfl ?_
    refine Sq.nil ?_
    refine To.next ?_
    refine Wp.ret ?_
    replace h := some_in h
    subst h
    exact To.end1 rfl (rv_c (i := 1) ty24 rfl rfl)
set_option maxHeartbeats 2000000 in
theorem C_ref01_Read {x0 : T_api_Value}  {r : (Vector Bool 128)} (h : L_ref01_Read x0 = some r) : Meets Try.prog 62 [VP.of (x0)] (VP.of (r)) := by
  unfold L_ref01_Read at h
  refine Meets.of Try.func62 rfl Try.ntmps62 rfl fun W A => ?_
  refine Wp.seq ?_
  refine Wp.reg ?_
  refine Sq.box (z := (x0 : T_api_Value)) (look_t rfl) rfl fun p1 => ?_
  refine Sq.alloc zr111 rfl fun p2 => ?_
  refine Sq.nil ?_
  refine To.next ?_
  refine Wp.seq ?_
  refine Wp.reg ?_
  refine Sq.alloc zr111 rfl fun p3 => ?_
  refine Sq.nil ?_
  refine To.next ?_
  refine Wp.seq ?_
  refine Wp.seq ?_
  refine Wp.reg ?_
  refine Sq.v (r_asg (look_int 0)) rfl rfl rfl ?_
  refine Sq.nil ?_
  refine To.next ?_
  refine Wp.block ?_
  obtain ⟨e1, hl, h⟩ := bind_some h
  refine Wp.loopG (σ := Int × (Vector Bool 128)) (ε := (Int × Bool × (Vector Bool 128))) (γ := Unit) (δ := Unit) hl (fun s1 g1 => [(0, VP.of (x0)), (1, VP.eq (.pointer (some ⟨p1, 0, none⟩))), (2, VP.eq (.pointer (some ⟨p2, 0, none⟩))), (3, VP.eq (.pointer (some ⟨p3, 0, none⟩))), (4, VP.of (s1.1))]) (fun s1 g1 => [⟨some p3, .var (s1.2 : Vector Bool 128)⟩, ⟨some p2, .var ((default : Vector Bool 128) : Vector Bool 128)⟩, ⟨some p1, .var (x0 : T_api_Value)⟩]) (fun q1 => Exit.exit 0) (fun q1 g1 => [(0, VP.of (x0)), (1, VP.eq (.pointer (some ⟨p1, 0, none⟩))), (2, VP.eq (.pointer (some ⟨p2, 0, none⟩))), (3, VP.eq (.pointer (some ⟨p3, 0, none⟩))), (4, VP.of (q1.1)), (6, VP.of (q1.2.1))]) (fun q1 g1 => [⟨some p3, .var (q1.2.2 : Vector Bool 128)⟩, ⟨some p2, .var ((default : Vector Bool 128) : Vector Bool 128)⟩, ⟨some p1, .var (x0 : T_api_Value)⟩]) () rfl (.same rfl (.same rfl (.same rfl (.same rfl (.same rfl .nil))))) (fun s1 r h g1 => ?_) (fun g1 => ?_)
  · clear hl
    refine Wp.seq ?_
    refine Wp.seq ?_
    refine Wp.reg ?_
    refine Sq.v (r_move (look_t rfl)) rfl rfl rfl ?_
    refine Sq.v (r_lss (look_t rfl) (look_int 64)) rfl rfl rfl ?_
    refine Sq.nil ?_
    refine To.next ?_
    refine Wp.cond (look_t rfl) (fun hc => ?_) (fun hc => ?_)
    · replace h := cond_t hc h
      refine Wp.skip ?_
      refine To.next ?_
      refine Wp.seq ?_
      refine Wp.block ?_
      obtain ⟨k1, hk1, h⟩ := bind_some h
      obtain ⟨z1, hz1, h⟩ := bind_some h
      refine Wp.draw mixed 19 ((some 9) :: (some 10) :: (some 11) :: (some 12) :: (some 13) :: (some 14) :: (some 15) :: (some 16) :: (some 17) :: (some 18) :: (some 19) :: (some 20) :: (some 21) :: (some 22) :: (some 23) :: (some 24) :: (some 25) :: (some 26) :: none :: []) ([] :: [] :: [1] :: [] :: [3] :: [] :: [5] :: [4, 6] :: [7] :: [8] :: [] :: [10] :: [] :: [12] :: [11, 13] :: [14] :: [15] :: [0] :: [9, 17] :: []) (.val (VP.of (s1.1)) :: .val (VP.of (s1.1)) :: .val (VP.of (w64 (s1.1 + 64))) :: .val (VP.eq (.pointer (some ⟨p1, 0 + 1, none⟩))) :: .val (VP.of (x0.f_Lo)) :: .val (VP.of (s1.1)) :: .val (VP.of (BitVec.ofInt 64 s1.1)) :: .val (VP.of (x0.f_Lo >>> (BitVec.ofInt 64 s1.1).toNat)) :: .val (VP.of ((x0.f_Lo >>> (BitVec.ofInt 64 s1.1).toNat) &&& (1#64))) :: .val (VP.of (((x0.f_Lo >>> (BitVec.ofInt 64 s1.1).toNat) &&& (1#64)) == (1#64))) :: .val (VP.eq (.pointer (some ⟨p1, 0 + 0, none⟩))) :: .val (VP.of (x0.f_Hi)) :: .val (VP.of (s1.1)) :: .val (VP.of (BitVec.ofInt 64 s1.1)) :: .val (VP.of (x0.f_Hi >>> (BitVec.ofInt 64 s1.1).toNat)) :: .val (VP.of ((x0.f_Hi >>> (BitVec.ofInt 64 s1.1).toNat) &&& (1#64))) :: .val (VP.of (((x0.f_Hi >>> (BitVec.ofInt 64 s1.1).toNat) &&& (1#64)) == (1#64))) :: .val (VP.eq (.pointer (some ⟨p3, 0 + k1 * 1, none⟩))) :: .sto 0 (.var (z1 : Vector Bool 128)) :: []) (false :: false :: false :: false :: false :: false :: false :: false :: false :: false :: false :: false :: false :: false :: false :: false :: false :: false :: true :: []) (by kernel_rfl) rfl rfl rfl (fun ps1 => ⟨fun L' hL => HO.v (r_move (look_t rfl)) rfl, fun L' hL => HO.v (r_move (look_t rfl)) rfl, fun L' hL => HO.v (r_add (look_t rfl) (look_int 64)) rfl, fun L' hL => HO.v (r_fa fd24_1 (look_t rfl)) rfl, fun L' hL => HO.v (r_load (i := 2) ((Lens.id T_api_Value).comp le_T_api_Value_Lo) (r := x0.f_Lo) ty22 (look_t rfl) (hL _ _ rfl (by kernel_rfl)) rfl rfl) rfl, fun L' hL => HO.v (r_move (look_t rfl)) rfl, fun L' hL => HO.v (r_ci64 Try.underlying3 Try.underlying117 (look_t rfl)) rfl, fun L' hL => HO.v (r_shr64 (look_t rfl) (look_t rfl)) rfl, fun L' hL => HO.v (r_and64 (look_t rfl) (look_u64 1 rfl)) rfl, fun L' hL => HO.v (r_eql64 (look_t rfl) (look_u64 1 rfl)) rfl, fun L' hL => HO.v (r_fa fd24_0 (look_t rfl)) rfl, fun L' hL => HO.v (r_load (i := 2) ((Lens.id T_api_Value).comp le_T_api_Value_Hi) (r := x0.f_Hi) ty22 (look_t rfl) (hL _ _ rfl (by kernel_rfl)) rfl rfl) rfl, fun L' hL => HO.v (r_move (look_t rfl)) rfl, fun L' hL => HO.v (r_ci64 Try.underlying3 Try.underlying117 (look_t rfl)) rfl, fun L' hL => HO.v (r_shr64 (look_t rfl) (look_t rfl)) rfl, fun L' hL => HO.v (r_and64 (look_t rfl) (look_u64 1 rfl)) rfl, fun L' hL => HO.v (r_eql64 (look_t rfl) (look_u64 1 rfl)) rfl, fun L' hL => HO.v (r_ia (k := k1) ar111 (look_t rfl) (look_t rfl) (idx_some hk1)) rfl, ⟨_, _, rfl, fun L' hL => so_var (i := 0) ((Lens.id (Vector Bool 128)).comp (Lens.idx (α := Bool) 128 k1 (idx_some hk1).1)) (v := (((x0.f_Lo >>> (BitVec.ofInt 64 s1.1).toNat) &&& (1#64)) == (1#64) : Bool)) (b' := (z1 : Vector Bool 128)) ty4 (look_t rfl) (look_t rfl) (hL _ _ rfl) rfl (some_in hz1)⟩, trivial⟩) fun ps1 => ?_
      obtain ⟨k2, hk2, h⟩ := bind_some h
      refine Sq.v (r_ia (k := k2) ar111 (look_t rfl) (look_t rfl) (idx_some hk2)) rfl rfl rfl ?_
      obtain ⟨z2, hz2, h⟩ := bind_some h
      refine Sq.store (i := 0) ((Lens.id (Vector Bool 128)).comp (Lens.idx (α := Bool) 128 k2 (idx_some hk2).1)) (v := (((x0.f_Hi >>> (BitVec.ofInt 64 s1.1).toNat) &&& (1#64)) == (1#64) : Bool)) (b' := (z2 : Vector Bool 128)) ty4 (look_t rfl) (look_t rfl) rfl rfl (some_in hz2) ?_
      refine Sq.nil ?_
      refine To.bnorm ?_
      refine To.next ?_
      refine Wp.reg ?_
      refine Sq.v (r_move (look_t rfl)) rfl rfl rfl ?_
      refine Sq.v (r_add (look_t rfl) (look_int 1)) rfl rfl rfl ?_
      refine Sq.v (r_asg (look_t rfl)) rfl rfl rfl ?_
      refine Sq.nil ?_
      replace h := some_in h
      subst h
      exact To.roundG () 0 rfl (.same rfl (.same rfl (.same rfl (.same rfl (.same rfl .nil)))))
    · replace h := cond_f hc h
      refine Wp.exit ?_
      refine To.exit ?_
      replace h := some_in h
      subst h
      exact To.leaveG () 0 rfl (by simp) rfl (.same rfl (.same rfl (.same rfl (.same rfl (.same rfl (.same rfl .nil))))))
  · clear hl
    refine To.bexit ?_
    refine To.next ?_
    refine Wp.seq ?_
    refine Wp.reg ?_
    refine Sq.v (r_load (i := 0) (Lens.id (Vector Bool 128)) (r := e1.2.2) ty111 (look_t rfl) rfl rfl rfl) rfl rfl rfl ?_
    refine Sq.store (i := 1) (Lens.id (Vector Bool 128)) (v := (e1.2.2 : Vector Bool 128)) (b' := (e1.2.2 : Vector Bool 128)) ty111 (look_t rfl) (look_t rfl) rfl rfl rfl ?_
    refine Sq.nil ?_
    refine To.next ?_
    refine Wp.ret ?_
    replace h := some_in h
    subst h
    exact To.end1 rfl (rv_c (i := 1) ty111 rfl rfl)
end Go.Proofs.Ytabodolbdalimaa
