/-
  Printed by the decompiler (dec.py) out of the seat's translation. Each function meets its functional program. Conditions: none.
-/
import Derived.Test.YtodajdohokmjnaaDl
namespace Go.Proofs.Ytodajdohokmjnaa
open Go Gv
set_option linter.unusedVariables false
set_option linter.unusedSimpArgs false
set_option maxRecDepth 100000
set_option maxHeartbeats 2000000 in
theorem C_ref04_index {x0 : List Int} {x1 : Int}  {r : Int} (h : L_ref04_index x0 x1 = some r) : Meets Try.prog 109 [VP.of (x0), VP.of (x1)] (VP.of (r)) := by
  unfold L_ref04_index at h
  refine Meets.of Try.func109 rfl Try.ntmps109 rfl fun W A => ?_
  refine Wp.seq ?_
  refine Wp.reg ?_
  refine Sq.v (r_asg (look_int 0)) rfl rfl rfl ?_
  refine Sq.nil ?_
  refine To.next ?_
  refine Wp.seq ?_
  refine Wp.seq ?_
  refine Wp.reg ?_
  refine Sq.v (r_move (look_t rfl)) rfl rfl rfl ?_
  refine Sq.v (r_len Try.underlying64 (look_t rfl)) rfl rfl rfl ?_
  refine Sq.v (r_move (look_int 0)) rfl rfl rfl ?_
  refine Sq.nil ?_
  refine To.next ?_
  refine Wp.block ?_
  obtain ⟨e1, hl, h⟩ := bind_some h
  refine Wp.loopG (σ := Int) (ε := (Int × Bool) ⊕ (Int × Int × Int × Int × Bool × Bool)) (γ := Unit) (δ := Unit) hl (fun s1 g1 => [(0, VP.of (x0)), (1, VP.of (x1)), (4, VP.of (0 : Int)), (7, VP.of (x0)), (8, VP.of (x0.length : Int)), (9, VP.of (s1))]) (fun s1 g1 => []) (fun q1 => Sum.elim (fun q1 => Exit.exit 0) (fun q1 => Exit.ret) q1) (fun q1 g1 => Sum.elim (fun q1 => [(0, VP.of (x0)), (1, VP.of (x1)), (4, VP.of (0 : Int)), (7, VP.of (x0)), (8, VP.of (x0.length : Int)), (9, VP.of (q1.1)), (10, VP.of (q1.2))]) (fun q1 => [(0, VP.of (x0)), (1, VP.of (x1)), (4, VP.of (q1.1)), (5, VP.of (q1.2.1)), (6, VP.of (q1.2.2.1)), (7, VP.of (x0)), (8, VP.of (x0.length : Int)), (9, VP.of (q1.2.2.2.1)), (10, VP.of (q1.2.2.2.2.1)), (16, VP.of (q1.2.2.2.2.2))]) q1) (fun q1 g1 => Sum.elim (fun q1 => []) (fun q1 => []) q1) () rfl (.same rfl (.same rfl (.same rfl (.same rfl (.same rfl (.same rfl .nil)))))) (fun s1 r h g1 => ?_) (fun g1 => ?_)
  · clear hl
    refine Wp.seq ?_
    refine Wp.reg ?_
    refine Sq.v (r_lss (look_t rfl) (look_t rfl)) rfl rfl rfl ?_
    refine Sq.nil ?_
    refine To.next ?_
    refine Wp.seq ?_
    refine Wp.cond (look_t rfl) (fun hc => ?_) (fun hc => ?_)
    · replace h := cond_t hc h
      refine Wp.skip ?_
      refine To.next ?_
      refine Wp.seq ?_
      refine Wp.block ?_
      refine Wp.seq ?_
      refine Wp.reg ?_
      refine Sq.v (r_move (look_t rfl)) rfl rfl rfl ?_
      obtain ⟨k1, hk1, h⟩ := bind_some h
      refine Sq.v (r_ias (k := k1) Try.underlying64 ty3 (look_t rfl) (look_t rfl) (idx_some hk1)) rfl rfl rfl ?_
      refine Sq.v (r_loadp ty3 (look_t rfl)) rfl rfl rfl ?_
      refine Sq.v (r_asg (look_t rfl)) rfl rfl rfl ?_
      refine Sq.v (r_asg (look_t rfl)) rfl rfl rfl ?_
      refine Sq.nil ?_
      refine To.next ?_
      refine Wp.seq ?_
      refine Wp.reg ?_
      refine Sq.v (r_move (look_t rfl)) rfl rfl rfl ?_
      refine Sq.v (r_move (look_t rfl)) rfl rfl rfl ?_
      refine Sq.v (r_eql (look_t rfl) (look_t rfl)) rfl rfl rfl ?_
      refine Sq.nil ?_
      refine To.next ?_
      refine Wp.cond (look_t rfl) (fun hc => ?_) (fun hc => ?_)
      · replace h := cond_t hc h
        refine Wp.seq ?_
        refine Wp.reg ?_
        refine Sq.v (r_move (look_t rfl)) rfl rfl rfl ?_
        refine Sq.v (r_asg (look_t rfl)) rfl rfl rfl ?_
        refine Sq.nil ?_
        refine To.next ?_
        refine Wp.ret ?_
        refine To.bret ?_
        refine To.ret ?_
        replace h := some_in h
        subst h
        exact To.leaveG () 0 rfl (by simp) rfl (.same rfl (.same rfl (.same rfl (.same rfl (.same rfl (.same rfl (.same rfl (.same rfl (.same rfl (.same rfl .nil))))))))))
      · replace h := cond_f hc h
        refine Wp.skip ?_
        refine To.bnorm ?_
        refine To.next ?_
        refine Wp.reg ?_
        refine Sq.v (r_add (look_t rfl) (look_int 1)) rfl rfl rfl ?_
        refine Sq.v (r_move (look_t rfl)) rfl rfl rfl ?_
        refine Sq.nil ?_
        replace h := some_in h
        subst h
        exact To.roundG () 0 rfl (.same rfl (.same rfl (.same rfl (.same rfl (.same rfl (.same rfl .nil))))))
    · replace h := cond_f hc h
      refine Wp.exit ?_
      refine To.exit ?_
      replace h := some_in h
      subst h
      exact To.leaveG () 0 rfl (by simp) rfl (.same rfl (.same rfl (.same rfl (.same rfl (.same rfl (.same rfl (.same rfl .nil)))))))
  · clear hl
    rcases e1 with e1 | e1
    · simp only [Sum.elim_inl] at h
      refine To.bexit ?_
      refine To.next ?_
      refine Wp.seq ?_
      refine Wp.reg ?_
      refine Sq.v (r_asg (look_int (-1))) rfl rfl rfl ?_
      refine Sq.nil ?_
      refine To.next ?_
      refine Wp.ret ?_
      replace h := some_in h
      subst h
      exact To.end1 rfl (rv_t rfl)
    · simp only [Sum.elim_inr] at h
      refine To.bret ?_
      refine To.ret ?_
      replace h := some_in h
      subst h
      exact To.end1 rfl (rv_t rfl)
set_option maxHeartbeats 2000000 in
theorem C_ref20_top {x0 : T_ref20_State} {x1 : Int}  {r : T_api_Value} (h : L_ref20_top x0 x1 = some r) : Meets Try.prog 74 [VP.of (x0), VP.of (x1)] (VP.of (r)) := by
  unfold L_ref20_top at h
  refine Meets.of Try.func74 rfl Try.ntmps74 rfl fun W A => ?_
  refine Wp.seq ?_
  refine Wp.reg ?_
  refine Sq.box (z := (x0 : T_ref20_State)) (look_t rfl) rfl fun p1 => ?_
  refine Sq.alloc zr47 rfl fun p2 => ?_
  refine Sq.nil ?_
  refine To.next ?_
  refine Wp.seq ?_
  refine Wp.seq ?_
  refine Wp.reg ?_
  refine Sq.v (r_fa fd44_1 (look_t rfl)) rfl rfl rfl ?_
  refine Sq.v (r_load (i := 1) ((Lens.id T_ref20_State).comp le_T_ref20_State_Tops) (r := x0.f_Tops) ty42 (look_t rfl) rfl rfl rfl) rfl rfl rfl ?_
  refine Sq.v (r_len Try.underlying42 (look_t rfl)) rfl rfl rfl ?_
  refine Sq.v (r_move (look_int 0)) rfl rfl rfl ?_
  refine Sq.nil ?_
  refine To.next ?_
  refine Wp.block ?_
  obtain ⟨e1, hl, h⟩ := bind_some h
  refine Wp.loopG (σ := Int) (ε := (Int × Bool) ⊕ (Int × Bool × Bool × T_api_Value)) (γ := Unit) (δ := Unit) hl (fun s1 g1 => [(0, VP.of (x0)), (1, VP.of (x1)), (2, VP.eq (.pointer (some ⟨p1, 0, none⟩))), (4, VP.eq (.pointer (some ⟨p2, 0, none⟩))), (8, VP.of (x0.f_Tops)), (9, VP.of (x0.f_Tops.length : Int)), (10, VP.of (s1))]) (fun s1 g1 => [⟨some p2, .var ((default : T_api_Value) : T_api_Value)⟩, ⟨some p1, .var (x0 : T_ref20_State)⟩]) (fun q1 => Sum.elim (fun q1 => Exit.exit 0) (fun q1 => Exit.ret) q1) (fun q1 g1 => Sum.elim (fun q1 => [(0, VP.of (x0)), (1, VP.of (x1)), (2, VP.eq (.pointer (some ⟨p1, 0, none⟩))), (4, VP.eq (.pointer (some ⟨p2, 0, none⟩))), (8, VP.of (x0.f_Tops)), (9, VP.of (x0.f_Tops.length : Int)), (10, VP.of (q1.1)), (11, VP.of (q1.2))]) (fun q1 => [(0, VP.of (x0)), (1, VP.of (x1)), (2, VP.eq (.pointer (some ⟨p1, 0, none⟩))), (4, VP.eq (.pointer (some ⟨p2, 0, none⟩))), (8, VP.of (x0.f_Tops)), (9, VP.of (x0.f_Tops.length : Int)), (10, VP.of (q1.1)), (11, VP.of (q1.2.1)), (17, VP.of (q1.2.2.1))]) q1) (fun q1 g1 => Sum.elim (fun q1 => [⟨some p2, .var ((default : T_api_Value) : T_api_Value)⟩, ⟨some p1, .var (x0 : T_ref20_State)⟩]) (fun q1 => [⟨some p2, .var (q1.2.2.2 : T_api_Value)⟩, ⟨some p1, .var (x0 : T_ref20_State)⟩]) q1) () rfl (.same rfl (.same rfl (.same rfl (.same rfl (.same rfl (.same rfl (.same rfl .nil))))))) (fun s1 r h g1 => ?_) (fun g1 => ?_)
  · clear hl
    refine Wp.seq ?_
    refine Wp.reg ?_
    refine Sq.v (r_lss (look_t rfl) (look_t rfl)) rfl rfl rfl ?_
    refine Sq.nil ?_
    refine To.next ?_
    refine Wp.seq ?_
    refine Wp.cond (look_t rfl) (fun hc => ?_) (fun hc => ?_)
    · replace h := cond_t hc h
      refine Wp.skip ?_
      refine To.next ?_
      refine Wp.seq ?_
      refine Wp.block ?_
      refine Wp.seq ?_
      refine Wp.reg ?_
      obtain ⟨k1, hk1, h⟩ := bind_some h
      refine Sq.v (r_ias (k := k1) Try.underlying42 ty159 (look_t rfl) (look_t rfl) (idx_some hk1)) rfl rfl rfl ?_
      refine Sq.v (r_loadp ty159 (look_t rfl)) rfl rfl rfl ?_
      refine Sq.alloc zr159 rfl fun p3 => ?_
      refine Sq.store (i := 0) (Lens.id T_ref20_Top) (v := (lget x0.f_Tops k1 : T_ref20_Top)) (b' := (lget x0.f_Tops k1 : T_ref20_Top)) ty159 (look_t rfl) (look_t rfl) rfl rfl rfl ?_
      refine Sq.nil ?_
      refine To.next ?_
      refine Wp.seq ?_
      refine Wp.reg ?_
      refine Sq.v (r_fa fd159_0 (look_t rfl)) rfl rfl rfl ?_
      refine Sq.v (r_load (i := 0) ((Lens.id T_ref20_Top).comp le_T_ref20_Top_Role) (r := (lget x0.f_Tops k1).f_Role) ty3 (look_t rfl) rfl rfl rfl) rfl rfl rfl ?_
      refine Sq.v (r_move (look_t rfl)) rfl rfl rfl ?_
      refine Sq.v (r_eql (look_t rfl) (look_t rfl)) rfl rfl rfl ?_
      refine Sq.nil ?_
      refine To.next ?_
      refine Wp.cond (look_t rfl) (fun hc => ?_) (fun hc => ?_)
      · replace h := cond_t hc h
        refine Wp.seq ?_
        refine Wp.reg ?_
        refine Sq.v (r_fa fd159_1 (look_t rfl)) rfl rfl rfl ?_
        refine Sq.v (r_load (i := 0) ((Lens.id T_ref20_Top).comp le_T_ref20_Top_Election) (r := (lget x0.f_Tops k1).f_Election) ty47 (look_t rfl) rfl rfl rfl) rfl rfl rfl ?_
        refine Sq.store (i := 1) (Lens.id T_api_Value) (v := ((lget x0.f_Tops k1).f_Election : T_api_Value)) (b' := ((lget x0.f_Tops k1).f_Election : T_api_Value)) ty47 (look_t rfl) (look_t rfl) rfl rfl rfl ?_
        refine Sq.nil ?_
        refine To.next ?_
        refine Wp.ret ?_
        refine To.bret ?_
        refine To.ret ?_
        replace h := some_in h
        subst h
        exact To.leaveG () 1 rfl (by simp) rfl (.same rfl (.same rfl (.same rfl (.same rfl (.same rfl (.same rfl (.same rfl (.same rfl (.same rfl .nil)))))))))
      · replace h := cond_f hc h
        refine Wp.skip ?_
        refine To.bnorm ?_
        refine To.next ?_
        refine Wp.reg ?_
        refine Sq.v (r_add (look_t rfl) (look_int 1)) rfl rfl rfl ?_
        refine Sq.v (r_move (look_t rfl)) rfl rfl rfl ?_
        refine Sq.nil ?_
        replace h := some_in h
        subst h
        exact To.roundG () 1 rfl (.same rfl (.same rfl (.same rfl (.same rfl (.same rfl (.same rfl (.same rfl .nil)))))))
    · replace h := cond_f hc h
      refine Wp.exit ?_
      refine To.exit ?_
      replace h := some_in h
      subst h
      exact To.leaveG () 0 rfl (by simp) rfl (.same rfl (.same rfl (.same rfl (.same rfl (.same rfl (.same rfl (.same rfl (.same rfl .nil))))))))
  · clear hl
    rcases e1 with e1 | e1
    · simp only [Sum.elim_inl] at h
      refine To.bexit ?_
      refine To.next ?_
      refine Wp.seq ?_
      refine Wp.reg ?_
      refine Sq.v (r_build (b := (default : T_api_Value)) rfl bu47 zr47 (.nil)) rfl rfl rfl ?_
      refine Sq.store (i := 0) (Lens.id T_api_Value) (v := ((default : T_api_Value) : T_api_Value)) (b' := ((default : T_api_Value) : T_api_Value)) ty47 (look_t rfl) (look_t rfl) rfl rfl rfl ?_
      refine Sq.nil ?_
      refine To.next ?_
      refine Wp.ret ?_
      replace h := some_in h
      subst h
      exact To.end1 rfl (rv_c (i := 0) ty47 rfl rfl)
    · simp only [Sum.elim_inr] at h
      refine To.bret ?_
      refine To.ret ?_
      replace h := some_in h
      subst h
      exact To.end1 rfl (rv_c (i := 0) ty47 rfl rfl)
set_option maxHeartbeats 2000000 in
theorem C_ref01_Read {x0 : T_api_Value}  {r : (Vector Bool 128)} (h : L_ref01_Read x0 = some r) : Meets Try.prog 111 [VP.of (x0)] (VP.of (r)) := by
  unfold L_ref01_Read at h
  refine Meets.of Try.func111 rfl Try.ntmps111 rfl fun W A => ?_
  refine Wp.seq ?_
  refine Wp.reg ?_
  refine Sq.box (z := (x0 : T_api_Value)) (look_t rfl) rfl fun p1 => ?_
  refine Sq.alloc zr222 rfl fun p2 => ?_
  refine Sq.nil ?_
  refine To.next ?_
  refine Wp.seq ?_
  refine Wp.reg ?_
  refine Sq.alloc zr222 rfl fun p3 => ?_
  refine Sq.nil ?_
  refine To.next ?_
  refine Wp.seq ?_
  refine Wp.seq ?_
  refine Wp.reg ?_
  refine Sq.v (r_asg (look_int 0)) rfl rfl rfl ?_
  refine Sq.nil ?_
  refine To.next ?_
  refine Wp.block ?_
  obtain ⟨e1, hl, h⟩ := bind_some h
  refine Wp.loopG (σ := Int × (Vector Bool 128)) (ε := (Int × Bool × (Vector Bool 128))) (γ := Unit) (δ := Unit) hl (fun s1 g1 => [(0, VP.of (x0)), (1, VP.eq (.pointer (some ⟨p1, 0, none⟩))), (2, VP.eq (.pointer (some ⟨p2, 0, none⟩))), (3, VP.eq (.pointer (some ⟨p3, 0, none⟩))), (4, VP.of (s1.1))]) (fun s1 g1 => [⟨some p3, .var (s1.2 : Vector Bool 128)⟩, ⟨some p2, .var ((default : Vector Bool 128) : Vector Bool 128)⟩, ⟨some p1, .var (x0 : T_api_Value)⟩]) (fun q1 => Exit.exit 0) (fun q1 g1 => [(0, VP.of (x0)), (1, VP.eq (.pointer (some ⟨p1, 0, none⟩))), (2, VP.eq (.pointer (some ⟨p2, 0, none⟩))), (3, VP.eq (.pointer (some ⟨p3, 0, none⟩))), (4, VP.of (q1.1)), (6, VP.of (q1.2.1))]) (fun q1 g1 => [⟨some p3, .var (q1.2.2 : Vector Bool 128)⟩, ⟨some p2, .var ((default : Vector Bool 128) : Vector Bool 128)⟩, ⟨some p1, .var (x0 : T_api_Value)⟩]) () rfl (.same rfl (.same rfl (.same rfl (.same rfl (.same rfl .nil))))) (fun s1 r h g1 => ?_) (fun g1 => ?_)
  · clear hl
    refine Wp.seq ?_
    refine Wp.seq ?_
    refine Wp.reg ?_
    refine Sq.v (r_move (look_t rfl)) rfl rfl rfl ?_
    refine Sq.v (r_lss (look_t rfl) (look_int 64)) rfl rfl rfl ?_
    refine Sq.nil ?_
    refine To.next ?_
    refine Wp.cond (look_t rfl) (fun hc => ?_) (fun hc => ?_)
    · replace h := cond_t hc h
      refine Wp.skip ?_
      refine To.next ?_
      refine Wp.seq ?_
      refine Wp.block ?_
      obtain ⟨k1, hk1, h⟩ := bind_some h
      obtain ⟨z1, hz1, h⟩ := bind_some h
      refine Wp.draw mixed 19 ((some 9) :: (some 10) :: (some 11) :: (some 12) :: (some 13) :: (some 14) :: (some 15) :: (some 16) :: (some 17) :: (some 18) :: (some 19) :: (some 20) :: (some 21) :: (some 22) :: (some 23) :: (some 24) :: (some 25) :: (some 26) :: none :: []) ([] :: [] :: [1] :: [] :: [3] :: [] :: [5] :: [4, 6] :: [7] :: [8] :: [] :: [10] :: [] :: [12] :: [11, 13] :: [14] :: [15] :: [0] :: [9, 17] :: []) (.val (VP.of (s1.1)) :: .val (VP.of (s1.1)) :: .val (VP.of (w64 (s1.1 + 64))) :: .val (VP.eq (.pointer (some ⟨p1, 0 + 1, none⟩))) :: .val (VP.of (x0.f_Lo)) :: .val (VP.of (s1.1)) :: .val (VP.of (BitVec.ofInt 64 s1.1)) :: .val (VP.of (x0.f_Lo >>> (BitVec.ofInt 64 s1.1).toNat)) :: .val (VP.of ((x0.f_Lo >>> (BitVec.ofInt 64 s1.1).toNat) &&& (1#64))) :: .val (VP.of (((x0.f_Lo >>> (BitVec.ofInt 64 s1.1).toNat) &&& (1#64)) == (1#64))) :: .val (VP.eq (.pointer (some ⟨p1, 0 + 0, none⟩))) :: .val (VP.of (x0.f_Hi)) :: .val (VP.of (s1.1)) :: .val (VP.of (BitVec.ofInt 64 s1.1)) :: .val (VP.of (x0.f_Hi >>> (BitVec.ofInt 64 s1.1).toNat)) :: .val (VP.of ((x0.f_Hi >>> (BitVec.ofInt 64 s1.1).toNat) &&& (1#64))) :: .val (VP.of (((x0.f_Hi >>> (BitVec.ofInt 64 s1.1).toNat) &&& (1#64)) == (1#64))) :: .val (VP.eq (.pointer (some ⟨p3, 0 + k1 * 1, none⟩))) :: .sto 0 (.var (z1 : Vector Bool 128)) :: []) (false :: false :: false :: false :: false :: false :: false :: false :: false :: false :: false :: false :: false :: false :: false :: false :: false :: false :: true :: []) (by kernel_rfl) rfl rfl rfl (fun ps1 => ⟨fun L' hL => HO.v (r_move (look_t rfl)) rfl, fun L' hL => HO.v (r_move (look_t rfl)) rfl, fun L' hL => HO.v (r_add (look_t rfl) (look_int 64)) rfl, fun L' hL => HO.v (r_fa fd47_1 (look_t rfl)) rfl, fun L' hL => HO.v (r_load (i := 2) ((Lens.id T_api_Value).comp le_T_api_Value_Lo) (r := x0.f_Lo) ty45 (look_t rfl) (hL _ _ rfl (by kernel_rfl)) rfl rfl) rfl, fun L' hL => HO.v (r_move (look_t rfl)) rfl, fun L' hL => HO.v (r_ci64 Try.underlying3 Try.underlying173 (look_t rfl)) rfl, fun L' hL => HO.v (r_shr64 (look_t rfl) (look_t rfl)) rfl, fun L' hL => HO.v (r_and64 (look_t rfl) (look_u64 1 rfl)) rfl, fun L' hL => HO.v (r_eql64 (look_t rfl) (look_u64 1 rfl)) rfl, fun L' hL => HO.v (r_fa fd47_0 (look_t rfl)) rfl, fun L' hL => HO.v (r_load (i := 2) ((Lens.id T_api_Value).comp le_T_api_Value_Hi) (r := x0.f_Hi) ty45 (look_t rfl) (hL _ _ rfl (by kernel_rfl)) rfl rfl) rfl, fun L' hL => HO.v (r_move (look_t rfl)) rfl, fun L' hL => HO.v (r_ci64 Try.underlying3 Try.underlying173 (look_t rfl)) rfl, fun L' hL => HO.v (r_shr64 (look_t rfl) (look_t rfl)) rfl, fun L' hL => HO.v (r_and64 (look_t rfl) (look_u64 1 rfl)) rfl, fun L' hL => HO.v (r_eql64 (look_t rfl) (look_u64 1 rfl)) rfl, fun L' hL => HO.v (r_ia (k := k1) ar222 (look_t rfl) (look_t rfl) (idx_some hk1)) rfl, ⟨_, _, rfl, fun L' hL => so_var (i := 0) ((Lens.id (Vector Bool 128)).comp (Lens.idx (α := Bool) 128 k1 (idx_some hk1).1)) (v := (((x0.f_Lo >>> (BitVec.ofInt 64 s1.1).toNat) &&& (1#64)) == (1#64) : Bool)) (b' := (z1 : Vector Bool 128)) ty4 (look_t rfl) (look_t rfl) (hL _ _ rfl) rfl (some_in hz1)⟩, trivial⟩) fun ps1 => ?_
      obtain ⟨k2, hk2, h⟩ := bind_some h
      refine Sq.v (r_ia (k := k2) ar222 (look_t rfl) (look_t rfl) (idx_some hk2)) rfl rfl rfl ?_
      obtain ⟨z2, hz2, h⟩ := bind_some h
      refine Sq.store (i := 0) ((Lens.id (Vector Bool 128)).comp (Lens.idx (α := Bool) 128 k2 (idx_some hk2).1)) (v := (((x0.f_Hi >>> (BitVec.ofInt 64 s1.1).toNat) &&& (1#64)) == (1#64) : Bool)) (b' := (z2 : Vector Bool 128)) ty4 (look_t rfl) (look_t rfl) rfl rfl (some_in hz2) ?_
      refine Sq.nil ?_
      refine To.bnorm ?_
      refine To.next ?_
      refine Wp.reg ?_
      refine Sq.v (r_move (look_t rfl)) rfl rfl rfl ?_
      refine Sq.v (r_add (look_t rfl) (look_int 1)) rfl rfl rfl ?_
      refine Sq.v (r_asg (look_t rfl)) rfl rfl rfl ?_
      refine Sq.nil ?_
      replace h := some_in h
      subst h
      exact To.roundG () 0 rfl (.same rfl (.same rfl (.same rfl (.same rfl (.same rfl .nil)))))
    · replace h := cond_f hc h
      refine Wp.exit ?_
      refine To.exit ?_
      replace h := some_in h
      subst h
      exact To.leaveG () 0 rfl (by simp) rfl (.same rfl (.same rfl (.same rfl (.same rfl (.same rfl (.same rfl .nil))))))
  · clear hl
    refine To.bexit ?_
    refine To.next ?_
    refine Wp.seq ?_
    refine Wp.reg ?_
    refine Sq.v (r_load (i := 0) (Lens.id (Vector Bool 128)) (r := e1.2.2) ty222 (look_t rfl) rfl rfl rfl) rfl rfl rfl ?_
    refine Sq.store (i := 1) (Lens.id (Vector Bool 128)) (v := (e1.2.2 : Vector Bool 128)) (b' := (e1.2.2 : Vector Bool 128)) ty222 (look_t rfl) (look_t rfl) rfl rfl rfl ?_
    refine Sq.nil ?_
    refine To.next ?_
    refine Wp.ret ?_
    replace h := some_in h
    subst h
    exact To.end1 rfl (rv_c (i := 1) ty222 rfl rfl)
set_option maxHeartbeats 2000000 in
theorem Cp0_ref20_raise {x0 : List T_ref20_Top} {x1 : Int} {x2 : T_api_Value} {key00 : Option Nat} {cap00 : Nat} {r : (List T_ref20_Top)} (h : Lp0_ref20_raise x0 x1 x2 = some r) : MeetsO Try.prog 75 [VP.eq (slv key00 x0.length cap00), VP.of (x1), VP.of (x2)] [⟨key00, .row 159 (x0 : List T_ref20_Top) cap00⟩] (δ := Unit) (fun d => VP.of (r)) (fun d => []) := by
  unfold Lp0_ref20_raise at h
  refine MeetsO.of Try.func75 rfl Try.ntmps75 rfl fun W A => ?_
  refine Wp.seq ?_
  refine Wp.reg ?_
  refine Sq.box (z := (x2 : T_api_Value)) (look_t rfl) rfl fun p1 => ?_
  refine Sq.v (r_asg (look_nil (α := T_ref20_Top))) rfl rfl rfl ?_
  refine Sq.nil ?_
  refine To.next ?_
  refine Wp.seq ?_
  refine Wp.reg ?_
  refine Sq.v (r_asg (look_int 0)) rfl rfl rfl ?_
  refine Sq.nil ?_
  refine To.next ?_
  refine Wp.seq ?_
  refine Wp.block ?_
  obtain ⟨e1, hl, h⟩ := bind_some h
  refine Wp.loopG (σ := Int) (ε := (Int × Bool)) (γ := Unit) (δ := Unit) hl (fun s1 g1 => [(0, VP.eq (slv key00 x0.length cap00)), (1, VP.of (x1)), (2, VP.of (x2)), (5, VP.eq (.pointer (some ⟨p1, 0, none⟩))), (6, VP.of ([] : List T_ref20_Top)), (7, VP.of (s1))]) (fun s1 g1 => [⟨some p1, .var (x2 : T_api_Value)⟩, ⟨key00, .row 159 (x0 : List T_ref20_Top) cap00⟩]) (fun q1 => Exit.exit 0) (fun q1 g1 => [(0, VP.eq (slv key00 x0.length cap00)), (1, VP.of (x1)), (2, VP.of (x2)), (5, VP.eq (.pointer (some ⟨p1, 0, none⟩))), (6, VP.of ([] : List T_ref20_Top)), (7, VP.of (q1.1)), (20, VP.of (q1.2))]) (fun q1 g1 => [⟨some p1, .var (x2 : T_api_Value)⟩, ⟨key00, .row 159 (x0 : List T_ref20_Top) cap00⟩]) () rfl (.same rfl (.same rfl (.same rfl (.same rfl (.same rfl (.same rfl .nil)))))) (fun s1 r h g1 => ?_) (fun g1 => ?_)
  · clear hl
    refine Wp.seq ?_
    refine Wp.seq ?_
    refine Wp.reg ?_
    refine Sq.v (r_move (look_t rfl)) rfl rfl rfl ?_
    refine Sq.v (r_move (look_t rfl)) rfl rfl rfl ?_
    refine Sq.v (r_lenO (i := 1) Try.underlying42 (look_t rfl) rfl rfl) rfl rfl rfl ?_
    refine Sq.v (r_lss (look_t rfl) (look_t rfl)) rfl rfl rfl ?_
    refine Sq.v (r_move (look_t rfl)) rfl rfl rfl ?_
    refine Sq.g (fun hb => r_move (look_t rfl)) rfl rfl rfl rfl rfl ?_
    refine Sq.g (fun hb => r_move (look_t rfl)) rfl rfl rfl rfl rfl ?_
    obtain ⟨k1, hk1, h⟩ := bind_some h
    refine Sq.g (fun hb => r_iaO (i := 1) (k := k1) (xs := (x0 : List T_ref20_Top)) Try.underlying42 ty159 (look_tc rfl hb) (look_tc rfl hb) rfl (idx_some (condM_some hk1 hb))) rfl rfl rfl rfl rfl ?_
    refine Sq.g (fun hb => r_fa fd159_0 (look_tc rfl hb)) rfl rfl rfl rfl rfl ?_
    refine Sq.g (fun hb => r_loadR (i := 1) (k := k1) ((Lens.id T_ref20_Top).comp le_T_ref20_Top_Role) (r := (lget x0 k1).f_Role) ty3 (look_tc rfl hb) rfl (idx_some (condM_some hk1 hb)).1 rfl rfl) rfl rfl rfl rfl rfl ?_
    refine Sq.g (fun hb => r_move (look_t rfl)) rfl rfl rfl rfl rfl ?_
    refine Sq.g (fun hb => r_lss (look_tc rfl hb) (look_tc rfl hb)) rfl rfl rfl rfl rfl ?_
    obtain ⟨z1, hz1, h⟩ := bind_some h
    refine Sq.v ((r_and (look_t rfl) (look_t rfl) (fun h => h)).as (some_in hz1)) rfl rfl rfl ?_
    refine Sq.nil ?_
    refine To.next ?_
    refine Wp.cond (look_t rfl) (fun hc => ?_) (fun hc => ?_)
    · replace h := cond_t hc h
      refine Wp.skip ?_
      refine To.next ?_
      refine Wp.block ?_
      refine Wp.reg ?_
      refine Sq.v (r_move (look_t rfl)) rfl rfl rfl ?_
      refine Sq.v (r_add (look_t rfl) (look_int 1)) rfl rfl rfl ?_
      refine Sq.v (r_asg (look_t rfl)) rfl rfl rfl ?_
      refine Sq.nil ?_
      refine To.bnorm ?_
      replace h := some_in h
      subst h
      exact To.roundG () 0 rfl (.same rfl (.same rfl (.same rfl (.same rfl (.same rfl (.same rfl .nil))))))
    · replace h := cond_f hc h
      refine Wp.exit ?_
      refine To.exit ?_
      replace h := some_in h
      subst h
      exact To.leaveG () 0 rfl (by simp) rfl (.same rfl (.same rfl (.same rfl (.same rfl (.same rfl (.same rfl (.same rfl .nil)))))))
  · clear hl
    refine To.bexit ?_
    refine To.next ?_
    refine Wp.seq ?_
    refine Wp.seq ?_
    refine Wp.reg ?_
    refine Sq.v (r_move (look_t rfl)) rfl rfl rfl ?_
    refine Sq.v (r_move (look_t rfl)) rfl rfl rfl ?_
    refine Sq.v (r_lenO (i := 1) Try.underlying42 (look_t rfl) rfl rfl) rfl rfl rfl ?_
    refine Sq.v (r_lss (look_t rfl) (look_t rfl)) rfl rfl rfl ?_
    refine Sq.v (r_move (look_t rfl)) rfl rfl rfl ?_
    refine Sq.g (fun hb => r_move (look_t rfl)) rfl rfl rfl rfl rfl ?_
    refine Sq.g (fun hb => r_move (look_t rfl)) rfl rfl rfl rfl rfl ?_
    obtain ⟨k2, hk2, h⟩ := bind_some h
    refine Sq.g (fun hb => r_iaO (i := 1) (k := k2) (xs := (x0 : List T_ref20_Top)) Try.underlying42 ty159 (look_tc rfl hb) (look_tc rfl hb) rfl (idx_some (condM_some hk2 hb))) rfl rfl rfl rfl rfl ?_
    refine Sq.g (fun hb => r_fa fd159_0 (look_tc rfl hb)) rfl rfl rfl rfl rfl ?_
    refine Sq.g (fun hb => r_loadR (i := 1) (k := k2) ((Lens.id T_ref20_Top).comp le_T_ref20_Top_Role) (r := (lget x0 k2).f_Role) ty3 (look_tc rfl hb) rfl (idx_some (condM_some hk2 hb)).1 rfl rfl) rfl rfl rfl rfl rfl ?_
    refine Sq.g (fun hb => r_move (look_t rfl)) rfl rfl rfl rfl rfl ?_
    refine Sq.g (fun hb => r_eql (look_tc rfl hb) (look_tc rfl hb)) rfl rfl rfl rfl rfl ?_
    refine Sq.v (r_and (look_t rfl) (look_t rfl) (fun h => h)) rfl rfl rfl ?_
    refine Sq.nil ?_
    refine To.next ?_
    refine Wp.cond (look_t rfl) (fun hc => ?_) (fun hc => ?_)
    · replace h := cond_t hc h
      refine Wp.seq ?_
      refine Wp.reg ?_
      refine Sq.v (r_move (look_t rfl)) rfl rfl rfl ?_
      refine Sq.v (r_move (look_t rfl)) rfl rfl rfl ?_
      refine Sq.v (r_load (i := 0) (Lens.id T_api_Value) (r := x2) ty47 (look_t rfl) rfl rfl rfl) rfl rfl rfl ?_
      obtain ⟨k3, hk3, h⟩ := bind_some h
      refine Sq.v (r_iaO (i := 1) (k := k3) (xs := (x0 : List T_ref20_Top)) Try.underlying42 ty159 (look_t rfl) (look_t rfl) rfl (idx_some hk3)) rfl rfl rfl ?_
      refine Sq.v (r_fa fd159_1 (look_t rfl)) rfl rfl rfl ?_
      refine Sq.storeR (i := 1) (k := k3) ((Lens.id T_ref20_Top).comp le_T_ref20_Top_Election) (v := (x2 : T_api_Value)) (r := (lset x0 k3 ({ (lget x0 k3) with f_Election := x2 } : T_ref20_Top) : List T_ref20_Top)) ty47 (look_t rfl) (look_t rfl) rfl (idx_some hk3).1 rfl rfl ?_
      refine Sq.relen (m := (lset x0 k3 ({ (lget x0 k3) with f_Election := x2 } : T_ref20_Top)).length) 0 rfl (lset_len rfl) ?_
      refine Sq.relen (m := (lset x0 k3 ({ (lget x0 k3) with f_Election := x2 } : T_ref20_Top)).length) 24 rfl (lset_len rfl) ?_
      refine Sq.relen (m := (lset x0 k3 ({ (lget x0 k3) with f_Election := x2 } : T_ref20_Top)).length) 36 rfl (lset_len rfl) ?_
      refine Sq.nil ?_
      refine To.next ?_
      refine Wp.seq ?_
      refine Wp.reg ?_
      refine Sq.v (r_move (look_t rfl)) rfl rfl rfl ?_
      refine Sq.v (r_asg (look_t rfl)) rfl rfl rfl ?_
      refine Sq.nil ?_
      refine To.next ?_
      refine Wp.ret ?_
      refine To.ret ?_
      refine To.freezeL (α := T_ref20_Top) 1 [6, 0, 24, 36, 41] ⟨rfl, rfl, rfl, rfl, rfl, trivial⟩ rfl ?_
      replace h := some_in h
      subst h
      exact To.endO1 () (List.nil_sublist _) rfl rfl (rvo_t rfl)
    · replace h := cond_f hc h
      refine Wp.skip ?_
      refine To.next ?_
      refine Wp.seq ?_
      refine Wp.freezeL (α := T_ref20_Top) 1 [0, 24] ⟨rfl, rfl, trivial⟩ rfl ?_
      obtain ⟨y1, hy1, h⟩ := bind_some h
      obtain ⟨y2, hy2, h⟩ := bind_some h
      obtain ⟨y3, hy3, h⟩ := bind_some h
      obtain ⟨y4, hy4, h⟩ := bind_some h
      obtain ⟨y5, hy5, h⟩ := bind_some h
      refine Wp.keep 1 ?_
      refine Wp.le (E' := [(0, VP.of (x0)), (1, VP.of (x1)), (2, VP.of (x2)), (5, VP.eq (.pointer (some ⟨p1, 0, none⟩))), (7, VP.of (e1.1)), (20, VP.of (e1.2)), (23, VP.of (e1.1)), (24, VP.of (x0)), (25, VP.of (x0.length : Int)), (26, VP.of (decide (e1.1 < (x0.length : Int)))), (27, VP.of (decide (e1.1 < (x0.length : Int)))), (28, VP.cond ((decide (e1.1 < (x0.length : Int))) = true) (VP.eq (slv key00 x0.length cap00))), (29, VP.cond ((decide (e1.1 < (x0.length : Int))) = true) (VP.of (e1.1))), (32, VP.cond ((decide (e1.1 < (x0.length : Int))) = true) (VP.of ((lget x0 k2).f_Role))), (33, VP.cond ((decide (e1.1 < (x0.length : Int))) = true) (VP.of (x1))), (34, VP.cond ((decide (e1.1 < (x0.length : Int))) = true) (VP.of (((lget x0 k2).f_Role) == x1))), (35, VP.of ((decide (e1.1 < (x0.length : Int))) && (((lget x0 k2).f_Role) == x1)))]) (.same rfl (.same rfl (.same rfl (.same rfl (.same rfl (.same rfl (.same rfl (.same rfl (.same rfl (.same rfl (.same rfl (.same rfl (.same rfl (.same rfl (.same rfl (.same rfl (.same rfl .nil))))))))))))))))) ?_
      refine Wp.drawD mixed (⟨some 42, [], (2 :: []), (2 :: []), fun hd => VP.eq (slv (hd 0 0) ([] : List T_ref20_Top).length 0), fun hd _ => ⟨(hd 0 0), .row 159 (([] : List T_ref20_Top) : List T_ref20_Top) 0⟩⟩ :: ⟨some 43, [], [], [], fun _ => VP.of (x0), fun _ _ => ⟨none, .dead⟩⟩ :: ⟨some 44, [], [], [], fun _ => VP.of (e1.1), fun _ _ => ⟨none, .dead⟩⟩ :: ⟨some 45, (1 :: 2 :: []), [], [], fun _ => VP.of (y1), fun _ _ => ⟨none, .dead⟩⟩ :: ⟨some 46, (0 :: 3 :: []), (2 :: []), (2 :: []), fun hd => VP.eq (slv (hd 4 0) y2.length ((hd 4 1).getD 0)), fun hd _ => ⟨(hd 4 0), .row 159 (y2 : List T_ref20_Top) ((hd 4 1).getD 0)⟩⟩ :: ⟨some 47, [], [], [], fun _ => VP.of (x1), fun _ _ => ⟨none, .dead⟩⟩ :: ⟨some 48, [], (0 :: []), [], fun _ => VP.of (x2), fun _ _ => ⟨none, .dead⟩⟩ :: ⟨some 49, (5 :: 6 :: []), [], [], fun _ => VP.of ({ f_Role := x1, f_Election := x2 : T_ref20_Top }), fun _ _ => ⟨none, .dead⟩⟩ :: ⟨some 50, (7 :: []), [], [], fun _ => VP.of ([{ f_Role := x1, f_Election := x2 : T_ref20_Top }]), fun _ _ => ⟨none, .dead⟩⟩ :: ⟨some 51, (0 :: 4 :: 8 :: []), (2 :: []), (2 :: []), fun hd => VP.eq (slv (hd 9 0) y3.length ((hd 9 1).getD 0)), fun hd _ => ⟨(hd 9 0), .row 159 (y3 : List T_ref20_Top) ((hd 9 1).getD 0)⟩⟩ :: ⟨some 52, [], [], [], fun _ => VP.of (x0), fun _ _ => ⟨none, .dead⟩⟩ :: ⟨some 53, [], [], [], fun _ => VP.of (e1.1), fun _ _ => ⟨none, .dead⟩⟩ :: ⟨some 54, (10 :: 11 :: []), [], [], fun _ => VP.of (y4), fun _ _ => ⟨none, .dead⟩⟩ :: ⟨some 55, (0 :: 4 :: 9 :: 12 :: []), (2 :: []), (2 :: []), fun hd => VP.eq (slv (hd 13 0) y5.length ((hd 13 1).getD 0)), fun hd _ => ⟨(hd 13 0), .row 159 (y5 : List T_ref20_Top) ((hd 13 1).getD 0)⟩⟩ :: ⟨some 6, (13 :: []), [], [], fun hd => VP.eq (slv (hd 13 0) y5.length ((hd 13 1).getD 0)), fun _ _ => ⟨none, .dead⟩⟩ :: []) ((some 42, [], (2 :: []), (2 :: [])) :: (some 43, [], [], []) :: (some 44, [], [], []) :: (some 45, (1 :: 2 :: []), [], []) :: (some 46, (0 :: 3 :: []), (2 :: []), (2 :: [])) :: (some 47, [], [], []) :: (some 48, [], (0 :: []), []) :: (some 49, (5 :: 6 :: []), [], []) :: (some 50, (7 :: []), [], []) :: (some 51, (0 :: 4 :: 8 :: []), (2 :: []), (2 :: [])) :: (some 52, [], [], []) :: (some 53, [], [], []) :: (some 54, (10 :: 11 :: []), [], []) :: (some 55, (0 :: 4 :: 9 :: 12 :: []), (2 :: []), (2 :: [])) :: (some 6, (13 :: []), [], []) :: []) (0 :: 1 :: 2 :: 5 :: 7 :: 20 :: 23 :: 24 :: 25 :: 26 :: 27 :: 28 :: 29 :: 32 :: 33 :: 34 :: 35 :: []) rfl rfl (by kernel_rfl) ⟨?_, ?_, ?_, ?_, ?_, ?_, ?_, ?_, ?_, ?_, ?_, ?_, ?_, ?_, ?_, trivial⟩ fun hd => ?_
      · intro hd E' L' hE hL
        refine Sq.bslO (α := T_ref20_Top) (r := ([] : List T_ref20_Top)) Try.underlying42 ty159 zr159 rfl rfl (.nil) rfl fun key1 => ?_
        refine Sq.nil ?_
        refine To.place 2 (hL 2 _ rfl rfl) ?_
        exact To.fin (gm [key1]) rfl rfl
      · exact hd_v rfl rfl rfl fun hd E' L' hE hL => r_move (look_t (hE _ _ rfl))
      · exact hd_v rfl rfl rfl fun hd E' L' hE hL => r_move (look_t (hE _ _ rfl))
      · exact hd_v rfl rfl rfl fun hd E' L' hE hL => r_slice Try.underlying42 ty159 (look_t (hE _ _ rfl)) .none (.some (look_t (hE _ _ rfl))) hy1
      · intro hd E' L' hE hL
        refine Sq.app (i := 2) Try.underlying42 ty159 zr159 (bytes := 24) (by kernel_rfl) (look_t (hE _ _ rfl)) (hL 2 _ rfl rfl) (look_t (hE _ _ rfl)) hy2 rfl fun key2 cap1 => ?_
        refine Sq.nil ?_
        exact To.fin (gm [key2, some cap1]) rfl rfl
      · exact hd_v rfl rfl rfl fun hd E' L' hE hL => r_move (look_t (hE _ _ rfl))
      · exact hd_v rfl rfl rfl fun hd E' L' hE hL => r_load (i := 0) (Lens.id T_api_Value) (r := x2) ty47 (look_t (hE _ _ rfl)) (hL 0 _ rfl rfl) rfl rfl
      · exact hd_v rfl rfl rfl fun hd E' L' hE hL => r_build (b := { f_Role := x1, f_Election := x2 : T_ref20_Top }) rfl bu159 zr159 (.cons le_T_ref20_Top_Role rfl (look_t (hE _ _ rfl)) rfl (.cons le_T_ref20_Top_Election rfl (look_t (hE _ _ rfl)) rfl (.nil)))
      · exact hd_v rfl rfl rfl fun hd E' L' hE hL => r_bsl (r := [{ f_Role := x1, f_Election := x2 : T_ref20_Top }]) Try.underlying42 ty159 zr159 rfl rfl (.cons (by simp) (look_t (hE _ _ rfl)) (.nil))
      · intro hd E' L' hE hL
        refine Sq.app (i := 2) Try.underlying42 ty159 zr159 (bytes := 24) (by kernel_rfl) (look_t (hE _ _ rfl)) (hL 2 _ rfl rfl) (look_t (hE _ _ rfl)) hy3 rfl fun key3 cap2 => ?_
        refine Sq.nil ?_
        exact To.fin (gm [key3, some cap2]) rfl rfl
      · exact hd_v rfl rfl rfl fun hd E' L' hE hL => r_move (look_t (hE _ _ rfl))
      · exact hd_v rfl rfl rfl fun hd E' L' hE hL => r_move (look_t (hE _ _ rfl))
      · exact hd_v rfl rfl rfl fun hd E' L' hE hL => r_slice Try.underlying42 ty159 (look_t (hE _ _ rfl)) (.some (look_t (hE _ _ rfl))) .none hy4
      · intro hd E' L' hE hL
        refine Sq.app (i := 2) Try.underlying42 ty159 zr159 (bytes := 24) (by kernel_rfl) (look_t (hE _ _ rfl)) (hL 2 _ rfl rfl) (look_t (hE _ _ rfl)) hy5 rfl fun key4 cap3 => ?_
        refine Sq.nil ?_
        exact To.fin (gm [key4, some cap3]) rfl rfl
      · intro hd E' L' hE hL
        refine Sq.v (r_asg (look_t (hE _ _ rfl))) rfl rfl rfl ?_
        refine Sq.nil ?_
        exact To.fin (gm []) rfl rfl
      refine To.eqL (L2 := [⟨some p1, .var (x2 : T_api_Value)⟩, ⟨none, .dead⟩, ⟨(hd 13 0), .row 159 (y5 : List T_ref20_Top) ((hd 13 1).getD 0)⟩]) rfl ?_
      refine To.le (E' := [(0, VP.of (x0)), (1, VP.of (x1)), (2, VP.of (x2)), (5, VP.eq (.pointer (some ⟨p1, 0, none⟩))), (6, VP.eq (slv (hd 13 0) y5.length ((hd 13 1).getD 0))), (7, VP.of (e1.1)), (20, VP.of (e1.2)), (23, VP.of (e1.1)), (24, VP.of (x0)), (25, VP.of (x0.length : Int)), (26, VP.of (decide (e1.1 < (x0.length : Int)))), (27, VP.of (decide (e1.1 < (x0.length : Int)))), (28, VP.cond ((decide (e1.1 < (x0.length : Int))) = true) (VP.eq (slv key00 x0.length cap00))), (29, VP.cond ((decide (e1.1 < (x0.length : Int))) = true) (VP.of (e1.1))), (32, VP.cond ((decide (e1.1 < (x0.length : Int))) = true) (VP.of ((lget x0 k2).f_Role))), (33, VP.cond ((decide (e1.1 < (x0.length : Int))) = true) (VP.of (x1))), (34, VP.cond ((decide (e1.1 < (x0.length : Int))) = true) (VP.of (((lget x0 k2).f_Role) == x1))), (35, VP.of ((decide (e1.1 < (x0.length : Int))) && (((lget x0 k2).f_Role) == x1))), (43, VP.of (x0)), (44, VP.of (e1.1)), (45, VP.of (y1)), (47, VP.of (x1)), (48, VP.of (x2)), (49, VP.of ({ f_Role := x1, f_Election := x2 : T_ref20_Top })), (50, VP.of ([{ f_Role := x1, f_Election := x2 : T_ref20_Top }])), (52, VP.of (x0)), (53, VP.of (e1.1)), (54, VP.of (y4)), (55, VP.eq (slv (hd 13 0) y5.length ((hd 13 1).getD 0)))]) (.same rfl (.same rfl (.same rfl (.same rfl (.same rfl (.same rfl (.same rfl (.same rfl (.same rfl (.same rfl (.same rfl (.same rfl (.same rfl (.same rfl (.same rfl (.same rfl (.same rfl (.same rfl (.same rfl (.same rfl (.same rfl (.same rfl (.same rfl (.same rfl (.same rfl (.same rfl (.same rfl (.same rfl (.same rfl .nil))))))))))))))))))))))))))))) ?_
      refine To.bring 2 rfl ?_
      refine To.next ?_
      refine Wp.ret ?_
      refine To.freezeL (α := T_ref20_Top) 0 [6, 55] ⟨rfl, rfl, trivial⟩ rfl ?_
      replace h := some_in h
      subst h
      exact To.endO1 () (List.nil_sublist _) rfl rfl (rvo_t rfl)
end Go.Proofs.Ytodajdohokmjnaa
