/-
  Printed by the decompiler (dec.py) out of the seat's translation. Each function meets its functional program. Conditions: none.
-/
import Derived.Test.YtabodolbdalimaaDc0
import Derived.Test.YtabodolbdalimaaDc1
import Derived.Test.YtabodolbdalimaaDc2
import Derived.Test.YtabodolbdalimaaDc4
namespace Go.Proofs.Ytabodolbdalimaa
open Go Gv
set_option linter.unusedVariables false
set_option linter.unusedSimpArgs false
set_option maxRecDepth 100000
set_option maxHeartbeats 2000000 in
theorem C_ref26_Reduce {x0 : List (Vector (BitVec 8) 512)}  {r : (List (Vector (BitVec 8) 512))} (h : L_ref26_Reduce x0 = some r) : Meets Try.prog 38 [VP.of (x0)] (VP.of (r)) := by
  unfold L_ref26_Reduce at h
  refine Meets.of Try.func38 rfl Try.ntmps38 rfl fun W A => ?_
  refine Wp.seq ?_
  refine Wp.reg ?_
  refine Sq.v (r_asg (look_nil (α := Vector (BitVec 8) 512))) rfl rfl rfl ?_
  refine Sq.nil ?_
  refine To.next ?_
  refine Wp.seq ?_
  refine Wp.reg ?_
  refine Sq.own (α := Vector (BitVec 8) 512) 36 ?_
  refine Sq.v (r_asg look_own) rfl rfl rfl ?_
  refine Sq.nil ?_
  refine To.next ?_
  refine Wp.seq ?_
  refine Wp.seq ?_
  refine Wp.reg ?_
  refine Sq.v (r_move (look_t rfl)) rfl rfl rfl ?_
  refine Sq.v (r_len Try.underlying33 (look_t rfl)) rfl rfl rfl ?_
  refine Sq.v (r_move (look_int 0)) rfl rfl rfl ?_
  refine Sq.nil ?_
  refine To.next ?_
  refine Wp.block ?_
  obtain ⟨e1, hl, h⟩ := bind_some h
  refine Wp.loopG (σ := Int × (List (Vector (BitVec 8) 512))) (ε := (Int × Bool × (List (Vector (BitVec 8) 512)))) (γ := (Option Nat × Nat)) (δ := (Option Nat × Nat)) hl (fun s1 g1 => [(0, VP.of (x0)), (2, VP.of ([] : List (Vector (BitVec 8) 512))), (3, VP.eq (slv g1.1 s1.2.length g1.2)), (9, VP.of (x0)), (10, VP.of (x0.length : Int)), (11, VP.of (s1.1))]) (fun s1 g1 => [⟨g1.1, .row 36 (s1.2 : List (Vector (BitVec 8) 512)) g1.2⟩]) (fun q1 => Exit.exit 0) (fun q1 g1 => [(0, VP.of (x0)), (2, VP.of ([] : List (Vector (BitVec 8) 512))), (3, VP.eq (slv g1.1 q1.2.2.length g1.2)), (9, VP.of (x0)), (10, VP.of (x0.length : Int)), (11, VP.of (q1.1)), (12, VP.of (q1.2.1))]) (fun q1 g1 => [⟨g1.1, .row 36 (q1.2.2 : List (Vector (BitVec 8) 512)) g1.2⟩]) (none, 0) rfl (.same rfl (.same rfl (.same rfl (.same rfl (.same rfl (.same rfl .nil)))))) (fun s1 r h g1 => ?_) (fun g1 => ?_)
  · clear hl
    refine Wp.seq ?_
    refine Wp.reg ?_
    refine Sq.v (r_lss (look_t rfl) (look_t rfl)) rfl rfl rfl ?_
    refine Sq.nil ?_
    refine To.next ?_
    refine Wp.seq ?_
    refine Wp.cond (look_t rfl) (fun hc => ?_) (fun hc => ?_)
    · replace h := cond_t hc h
      refine Wp.skip ?_
      refine To.next ?_
      refine Wp.seq ?_
      refine Wp.block ?_
      refine Wp.seq ?_
      refine Wp.reg ?_
      refine Sq.v (r_move (look_t rfl)) rfl rfl rfl ?_
      obtain ⟨k1, hk1, h⟩ := bind_some h
      refine Sq.v (r_ias (k := k1) Try.underlying33 ty36 (look_t rfl) (look_t rfl) (idx_some hk1)) rfl rfl rfl ?_
      refine Sq.v (r_loadp ty36 (look_t rfl)) rfl rfl rfl ?_
      refine Sq.alloc zr36 rfl fun p1 => ?_
      refine Sq.v (r_asg (look_t rfl)) rfl rfl rfl ?_
      refine Sq.store (i := 0) (Lens.id (Vector (BitVec 8) 512)) (v := (lget x0 k1 : Vector (BitVec 8) 512)) (b' := (lget x0 k1 : Vector (BitVec 8) 512)) ty36 (look_t rfl) (look_t rfl) rfl rfl rfl ?_
      refine Sq.nil ?_
      refine To.next ?_
      refine Wp.seq ?_
      refine Wp.reg ?_
      refine Sq.v (r_asg (look_bool true)) rfl rfl rfl ?_
      refine Sq.nil ?_
      refine To.next ?_
      refine Wp.seq ?_
      refine Wp.seq ?_
      refine Wp.reg ?_
      refine Sq.v (r_move (look_t rfl)) rfl rfl rfl ?_
      refine Sq.v (r_len Try.underlying33 (look_t rfl)) rfl rfl rfl ?_
      refine Sq.v (r_move (look_int 0)) rfl rfl rfl ?_
      refine Sq.nil ?_
      refine To.next ?_
      refine Wp.block ?_
      obtain ⟨e2, hl, h⟩ := bind_some h
      refine Wp.loopG (σ := Bool × Int) (ε := (Bool × Int × Bool)) (γ := Unit) (δ := Unit) hl (fun s2 g2 => [(0, VP.of (x0)), (2, VP.of ([] : List (Vector (BitVec 8) 512))), (3, VP.eq (slv g1.1 s1.2.length g1.2)), (4, VP.of (s1.1)), (5, VP.eq (.pointer (some ⟨p1, 0, none⟩))), (6, VP.of (s2.1)), (9, VP.of (x0)), (10, VP.of (x0.length : Int)), (11, VP.of (s1.1)), (12, VP.of (decide (s1.1 < (x0.length : Int)))), (16, VP.of (x0)), (17, VP.of (x0.length : Int)), (18, VP.of (s2.2))]) (fun s2 g2 => [⟨some p1, .var (lget x0 k1 : Vector (BitVec 8) 512)⟩, ⟨g1.1, .row 36 (s1.2 : List (Vector (BitVec 8) 512)) g1.2⟩]) (fun q2 => Exit.exit 2) (fun q2 g2 => [(0, VP.of (x0)), (2, VP.of ([] : List (Vector (BitVec 8) 512))), (3, VP.eq (slv g1.1 s1.2.length g1.2)), (4, VP.of (s1.1)), (5, VP.eq (.pointer (some ⟨p1, 0, none⟩))), (6, VP.of (q2.1)), (9, VP.of (x0)), (10, VP.of (x0.length : Int)), (11, VP.of (s1.1)), (12, VP.of (decide (s1.1 < (x0.length : Int)))), (16, VP.of (x0)), (17, VP.of (x0.length : Int)), (18, VP.of (q2.2.1)), (19, VP.of (q2.2.2))]) (fun q2 g2 => [⟨some p1, .var (lget x0 k1 : Vector (BitVec 8) 512)⟩, ⟨g1.1, .row 36 (s1.2 : List (Vector (BitVec 8) 512)) g1.2⟩]) () rfl (.same rfl (.same rfl (.same rfl (.same rfl (.same rfl (.same rfl (.same rfl (.same rfl (.same rfl (.same rfl (.same rfl (.same rfl (.same rfl .nil))))))))))))) (fun s2 r h g2 => ?_) (fun g2 => ?_)
      · clear hl
        refine Wp.seq ?_
        refine Wp.reg ?_
        refine Sq.v (r_lss (look_t rfl) (look_t rfl)) rfl rfl rfl ?_
        refine Sq.nil ?_
        refine To.next ?_
        refine Wp.seq ?_
        refine Wp.cond (look_t rfl) (fun hc => ?_) (fun hc => ?_)
        · replace h := cond_t hc h
          refine Wp.skip ?_
          refine To.next ?_
          refine Wp.seq ?_
          refine Wp.block ?_
          refine Wp.seq ?_
          refine Wp.reg ?_
          refine Sq.v (r_move (look_t rfl)) rfl rfl rfl ?_
          obtain ⟨k2, hk2, h⟩ := bind_some h
          refine Sq.v (r_ias (k := k2) Try.underlying33 ty36 (look_t rfl) (look_t rfl) (idx_some hk2)) rfl rfl rfl ?_
          refine Sq.v (r_loadp ty36 (look_t rfl)) rfl rfl rfl ?_
          refine Sq.alloc zr36 rfl fun p2 => ?_
          refine Sq.v (r_asg (look_t rfl)) rfl rfl rfl ?_
          refine Sq.store (i := 0) (Lens.id (Vector (BitVec 8) 512)) (v := (lget x0 k2 : Vector (BitVec 8) 512)) (b' := (lget x0 k2 : Vector (BitVec 8) 512)) ty36 (look_t rfl) (look_t rfl) rfl rfl rfl ?_
          refine Sq.nil ?_
          refine To.next ?_
          refine Wp.seq ?_
          refine Wp.reg ?_
          refine Sq.v (r_load (i := 1) (Lens.id (Vector (BitVec 8) 512)) (r := (lget x0 k1)) ty36 (look_t rfl) rfl rfl rfl) rfl rfl rfl ?_
          refine Sq.v (r_load (i := 0) (Lens.id (Vector (BitVec 8) 512)) (r := (lget x0 k2)) ty36 (look_t rfl) rfl rfl rfl) rfl rfl rfl ?_
          obtain ⟨y1, hy1, h⟩ := bind_some h
          refine Sq.v (r_call en28 (C_ref25_Within hy1) ⟨look_t rfl, look_t rfl, trivial⟩) rfl rfl rfl ?_
          refine Sq.v (r_move (look_t rfl)) rfl rfl rfl ?_
          refine Sq.g (fun hb => r_load (i := 1) (Lens.id (Vector (BitVec 8) 512)) (r := (lget x0 k1)) ty36 (look_t rfl) rfl rfl rfl) rfl rfl rfl rfl rfl ?_
          refine Sq.g (fun hb => r_load (i := 0) (Lens.id (Vector (BitVec 8) 512)) (r := (lget x0 k2)) ty36 (look_t rfl) rfl rfl rfl) rfl rfl rfl rfl rfl ?_
          refine Sq.g (fun hb => r_neA eqv36 rfl eqg36 rfl (look_tc rfl hb) (look_tc rfl hb)) rfl rfl rfl rfl rfl ?_
          refine Sq.g (fun hb => r_move (look_tc rfl hb)) rfl rfl rfl rfl rfl ?_
          refine Sq.gg (fun hb => r_move (look_t rfl)) rfl rfl rfl rfl rfl ?_
          refine Sq.gg (fun hb => r_move (look_t rfl)) rfl rfl rfl rfl rfl ?_
          refine Sq.gg (fun hb => r_lss (look_tc rfl hb) (look_tc rfl hb)) rfl rfl rfl rfl rfl ?_
          refine Sq.g (fun hb => r_or (look_tc rfl hb) (look_t rfl) (fun h => ⟨hb, h⟩)) rfl rfl rfl rfl rfl ?_
          obtain ⟨z1, hz1, h⟩ := bind_some h
          refine Sq.v ((r_and (look_t rfl) (look_t rfl) (fun h => h)).as (some_in hz1)) rfl rfl rfl ?_
          refine Sq.nil ?_
          refine To.next ?_
          obtain ⟨m1, hm1, h⟩ := bind_some h
          refine Wp.condM (γ := Unit) (fun g3 => [(0, VP.of (x0)), (2, VP.of ([] : List (Vector (BitVec 8) 512))), (3, VP.eq (slv g1.1 s1.2.length g1.2)), (4, VP.of (s1.1)), (5, VP.eq (.pointer (some ⟨p1, 0, none⟩))), (6, VP.of (m1)), (7, VP.of (s2.2)), (8, VP.eq (.pointer (some ⟨p2, 0, none⟩))), (9, VP.of (x0)), (10, VP.of (x0.length : Int)), (11, VP.of (s1.1)), (12, VP.of (decide (s1.1 < (x0.length : Int)))), (16, VP.of (x0)), (17, VP.of (x0.length : Int)), (18, VP.of (s2.2)), (19, VP.of (decide (s2.2 < (x0.length : Int)))), (35, VP.of (z1))]) (fun g3 => [⟨some p2, .var (lget x0 k2 : Vector (BitVec 8) 512)⟩, ⟨some p1, .var (lget x0 k1 : Vector (BitVec 8) 512)⟩, ⟨g1.1, .row 36 (s1.2 : List (Vector (BitVec 8) 512)) g1.2⟩]) (look_t rfl) (fun g3 => ?_) (fun hm hc => ?_) (fun hm hc => ?_)
          · clear hm1
            refine To.bnorm ?_
            refine To.next ?_
            refine Wp.reg ?_
            refine Sq.v (r_add (look_t rfl) (look_int 1)) rfl rfl rfl ?_
            refine Sq.v (r_move (look_t rfl)) rfl rfl rfl ?_
            refine Sq.nil ?_
            replace h := some_in h
            subst h
            exact To.roundG () 1 rfl (.same rfl (.same rfl (.same rfl (.same rfl (.same rfl (.same rfl (.same rfl (.same rfl (.same rfl (.same rfl (.same rfl (.same rfl (.same rfl .nil)))))))))))))
          · have h := cond_t hc hm1
            refine Wp.reg ?_
            refine Sq.v (r_asg (look_bool false)) rfl rfl rfl ?_
            refine Sq.nil ?_
            replace h := some_in h
            subst h
            exact To.meet 0 rfl (.same rfl (.same rfl (.same rfl (.same rfl (.same rfl (.same rfl (.same rfl (.same rfl (.same rfl (.same rfl (.same rfl (.same rfl (.same rfl (.same rfl (.same rfl (.same rfl (.same rfl .nil))))))))))))))))) (hm ())
          · have h := cond_f hc hm1
            refine Wp.skip ?_
            replace h := some_in h
            subst h
            exact To.meet 0 rfl (.same rfl (.same rfl (.same rfl (.same rfl (.same rfl (.same rfl (.same rfl (.same rfl (.same rfl (.same rfl (.same rfl (.same rfl (.same rfl (.same rfl (.same rfl (.same rfl (.same rfl .nil))))))))))))))))) (hm ())
        · replace h := cond_f hc h
          refine Wp.exit ?_
          refine To.exit ?_
          replace h := some_in h
          subst h
          exact To.leaveG () 0 rfl (by simp) rfl (.same rfl (.same rfl (.same rfl (.same rfl (.same rfl (.same rfl (.same rfl (.same rfl (.same rfl (.same rfl (.same rfl (.same rfl (.same rfl (.same rfl .nil))))))))))))))
      · clear hl
        refine To.bexit ?_
        refine To.next ?_
        refine Wp.seq ?_
        refine Wp.reg ?_
        refine Sq.v (r_move (look_t rfl)) rfl rfl rfl ?_
        refine Sq.nil ?_
        refine To.next ?_
        obtain ⟨m2, hm2, h⟩ := bind_some h
        refine Wp.condM (γ := (Option Nat × Nat)) (fun g4 => [(0, VP.of (x0)), (2, VP.of ([] : List (Vector (BitVec 8) 512))), (3, VP.eq (slv g4.1 m2.length g4.2)), (4, VP.of (s1.1)), (5, VP.eq (.pointer (some ⟨p1, 0, none⟩))), (6, VP.of (e2.1)), (9, VP.of (x0)), (10, VP.of (x0.length : Int)), (11, VP.of (s1.1)), (12, VP.of (decide (s1.1 < (x0.length : Int)))), (16, VP.of (x0)), (17, VP.of (x0.length : Int)), (18, VP.of (e2.2.1)), (19, VP.of (e2.2.2)), (37, VP.of (e2.1))]) (fun g4 => [⟨some p1, .var (lget x0 k1 : Vector (BitVec 8) 512)⟩, ⟨g4.1, .row 36 (m2 : List (Vector (BitVec 8) 512)) g4.2⟩]) (look_t rfl) (fun g4 => ?_) (fun hm hc => ?_) (fun hm hc => ?_)
        · clear hm2
          refine To.bnorm ?_
          refine To.next ?_
          refine Wp.reg ?_
          refine Sq.v (r_add (look_t rfl) (look_int 1)) rfl rfl rfl ?_
          refine Sq.v (r_move (look_t rfl)) rfl rfl rfl ?_
          refine Sq.nil ?_
          replace h := some_in h
          subst h
          exact To.roundG (g4.1, g4.2) 1 rfl (.same rfl (.same rfl (.same rfl (.same rfl (.same rfl (.same rfl .nil))))))
        · have h := cond_t hc hm2
          refine Wp.reg ?_
          refine Sq.v (r_move (look_t rfl)) rfl rfl rfl ?_
          refine Sq.v (r_load (i := 0) (Lens.id (Vector (BitVec 8) 512)) (r := (lget x0 k1)) ty36 (look_t rfl) rfl rfl rfl) rfl rfl rfl ?_
          refine Sq.v (r_bsl (r := [(lget x0 k1)]) Try.underlying33 ty36 zr36 rfl rfl (.cons (by simp) (look_t rfl) (.nil))) rfl rfl rfl ?_
          obtain ⟨y2, hy2, h⟩ := bind_some h
          refine Sq.app (i := 1) Try.underlying33 ty36 zr36 (bytes := 512) (by kernel_rfl) (look_t rfl) rfl (look_t rfl) hy2 rfl fun key1 cap1 => ?_
          refine Sq.v (r_asg (look_t rfl)) rfl rfl rfl ?_
          refine Sq.nil ?_
          replace h := some_in h
          subst h
          exact To.meet 0 rfl (.same rfl (.same rfl (.same rfl (.same rfl (.same rfl (.same rfl (.same rfl (.same rfl (.same rfl (.same rfl (.same rfl (.same rfl (.same rfl (.same rfl (.same rfl .nil))))))))))))))) (hm (key1, cap1))
        · have h := cond_f hc hm2
          refine Wp.skip ?_
          replace h := some_in h
          subst h
          exact To.meet 0 rfl (.same rfl (.same rfl (.same rfl (.same rfl (.same rfl (.same rfl (.same rfl (.same rfl (.same rfl (.same rfl (.same rfl (.same rfl (.same rfl (.same rfl (.same rfl .nil))))))))))))))) (hm (g1.1, g1.2))
    · replace h := cond_f hc h
      refine Wp.exit ?_
      refine To.exit ?_
      replace h := some_in h
      subst h
      exact To.leaveG (g1.1, g1.2) 0 rfl (by simp) rfl (.same rfl (.same rfl (.same rfl (.same rfl (.same rfl (.same rfl (.same rfl .nil)))))))
  · clear hl
    refine To.bexit ?_
    refine To.next ?_
    refine Wp.seq ?_
    refine Wp.reg ?_
    refine Sq.v (r_move (look_t rfl)) rfl rfl rfl ?_
    refine Sq.v (r_asg (look_t rfl)) rfl rfl rfl ?_
    refine Sq.nil ?_
    refine To.next ?_
    refine Wp.ret ?_
    refine To.freeze (α := Vector (BitVec 8) 512) 0 2 rfl rfl ?_
    replace h := some_in h
    subst h
    exact To.end1 rfl (rv_t rfl)
set_option maxHeartbeats 2000000 in
theorem C_ref26_point {x0 : Vector (BitVec 8) 512}  {r : (Vector T_api_Value 4)} (h : L_ref26_point x0 = some r) : Meets Try.prog 71 [VP.of (x0)] (VP.of (r)) := by
  unfold L_ref26_point at h
  refine Meets.of Try.func71 rfl Try.ntmps71 rfl fun W A => ?_
  refine Wp.seq ?_
  refine Wp.reg ?_
  refine Sq.box (z := (x0 : Vector (BitVec 8) 512)) (look_t rfl) rfl fun p1 => ?_
  refine Sq.alloc zr26 rfl fun p2 => ?_
  refine Sq.nil ?_
  refine To.next ?_
  refine Wp.seq ?_
  refine Wp.reg ?_
  refine Sq.alloc zr26 rfl fun p3 => ?_
  refine Sq.nil ?_
  refine To.next ?_
  refine Wp.seq ?_
  refine Wp.seq ?_
  refine Wp.reg ?_
  refine Sq.v (r_move (look_int 0)) rfl rfl rfl ?_
  refine Sq.nil ?_
  refine To.next ?_
  refine Wp.block ?_
  obtain ⟨e1, hl, h⟩ := bind_some h
  refine Wp.loopG (σ := Int × (Vector T_api_Value 4)) (ε := (Int × Bool × (Vector T_api_Value 4))) (γ := Unit) (δ := Unit) hl (fun s1 g1 => [(0, VP.of (x0)), (1, VP.eq (.pointer (some ⟨p1, 0, none⟩))), (2, VP.eq (.pointer (some ⟨p2, 0, none⟩))), (3, VP.eq (.pointer (some ⟨p3, 0, none⟩))), (7, VP.of (s1.1))]) (fun s1 g1 => [⟨some p3, .var (s1.2 : Vector T_api_Value 4)⟩, ⟨some p2, .var ((default : Vector T_api_Value 4) : Vector T_api_Value 4)⟩, ⟨some p1, .var (x0 : Vector (BitVec 8) 512)⟩]) (fun q1 => Exit.exit 0) (fun q1 g1 => [(0, VP.of (x0)), (1, VP.eq (.pointer (some ⟨p1, 0, none⟩))), (2, VP.eq (.pointer (some ⟨p2, 0, none⟩))), (3, VP.eq (.pointer (some ⟨p3, 0, none⟩))), (7, VP.of (q1.1)), (8, VP.of (q1.2.1))]) (fun q1 g1 => [⟨some p3, .var (q1.2.2 : Vector T_api_Value 4)⟩, ⟨some p2, .var ((default : Vector T_api_Value 4) : Vector T_api_Value 4)⟩, ⟨some p1, .var (x0 : Vector (BitVec 8) 512)⟩]) () rfl (.same rfl (.same rfl (.same rfl (.same rfl (.same rfl .nil))))) (fun s1 r h g1 => ?_) (fun g1 => ?_)
  · clear hl
    refine Wp.seq ?_
    refine Wp.reg ?_
    refine Sq.v (r_lss (look_t rfl) (look_int 4)) rfl rfl rfl ?_
    refine Sq.nil ?_
    refine To.next ?_
    refine Wp.seq ?_
    refine Wp.cond (look_t rfl) (fun hc => ?_) (fun hc => ?_)
    · replace h := cond_t hc h
      refine Wp.skip ?_
      refine To.next ?_
      refine Wp.seq ?_
      refine Wp.block ?_
      refine Wp.seq ?_
      refine Wp.reg ?_
      refine Sq.v (r_move (look_t rfl)) rfl rfl rfl ?_
      refine Sq.v (r_asg (look_t rfl)) rfl rfl rfl ?_
      refine Sq.nil ?_
      refine To.next ?_
      refine Wp.seq ?_
      refine Wp.reg ?_
      refine Sq.alloc zr111 rfl fun p4 => ?_
      refine Sq.nil ?_
      refine To.next ?_
      refine Wp.seq ?_
      refine Wp.seq ?_
      refine Wp.reg ?_
      refine Sq.v (r_move (look_int 0)) rfl rfl rfl ?_
      refine Sq.nil ?_
      refine To.next ?_
      refine Wp.block ?_
      obtain ⟨e2, hl, h⟩ := bind_some h
      refine Wp.loopG (σ := Int × (Vector Bool 128)) (ε := (Int × Bool × (Vector Bool 128))) (γ := Unit) (δ := Unit) hl (fun s2 g2 => [(0, VP.of (x0)), (1, VP.eq (.pointer (some ⟨p1, 0, none⟩))), (2, VP.eq (.pointer (some ⟨p2, 0, none⟩))), (3, VP.eq (.pointer (some ⟨p3, 0, none⟩))), (4, VP.of (s1.1)), (5, VP.eq (.pointer (some ⟨p4, 0, none⟩))), (7, VP.of (s1.1)), (8, VP.of (decide (s1.1 < 4))), (10, VP.of (s2.1))]) (fun s2 g2 => [⟨some p4, .var (s2.2 : Vector Bool 128)⟩, ⟨some p3, .var (s1.2 : Vector T_api_Value 4)⟩, ⟨some p2, .var ((default : Vector T_api_Value 4) : Vector T_api_Value 4)⟩, ⟨some p1, .var (x0 : Vector (BitVec 8) 512)⟩]) (fun q2 => Exit.exit 2) (fun q2 g2 => [(0, VP.of (x0)), (1, VP.eq (.pointer (some ⟨p1, 0, none⟩))), (2, VP.eq (.pointer (some ⟨p2, 0, none⟩))), (3, VP.eq (.pointer (some ⟨p3, 0, none⟩))), (4, VP.of (s1.1)), (5, VP.eq (.pointer (some ⟨p4, 0, none⟩))), (7, VP.of (s1.1)), (8, VP.of (decide (s1.1 < 4))), (10, VP.of (q2.1)), (11, VP.of (q2.2.1))]) (fun q2 g2 => [⟨some p4, .var (q2.2.2 : Vector Bool 128)⟩, ⟨some p3, .var (s1.2 : Vector T_api_Value 4)⟩, ⟨some p2, .var ((default : Vector T_api_Value 4) : Vector T_api_Value 4)⟩, ⟨some p1, .var (x0 : Vector (BitVec 8) 512)⟩]) () rfl (.same rfl (.same rfl (.same rfl (.same rfl (.same rfl (.same rfl (.same rfl (.same rfl (.same rfl .nil))))))))) (fun s2 r h g2 => ?_) (fun g2 => ?_)
      · clear hl
        refine Wp.seq ?_
        refine Wp.reg ?_
        refine Sq.v (r_lss (look_t rfl) (look_int 128)) rfl rfl rfl ?_
        refine Sq.nil ?_
        refine To.next ?_
        refine Wp.seq ?_
        refine Wp.cond (look_t rfl) (fun hc => ?_) (fun hc => ?_)
        · replace h := cond_t hc h
          refine Wp.skip ?_
          refine To.next ?_
          refine Wp.seq ?_
          refine Wp.block ?_
          refine Wp.seq ?_
          refine Wp.reg ?_
          refine Sq.v (r_move (look_t rfl)) rfl rfl rfl ?_
          refine Sq.v (r_asg (look_t rfl)) rfl rfl rfl ?_
          refine Sq.nil ?_
          refine To.next ?_
          refine Wp.reg ?_
          refine Sq.v (r_move (look_t rfl)) rfl rfl rfl ?_
          refine Sq.v (r_move (look_t rfl)) rfl rfl rfl ?_
          refine Sq.v (r_mul (look_int 128) (look_t rfl)) rfl rfl rfl ?_
          refine Sq.v (r_add (look_t rfl) (look_int 127)) rfl rfl rfl ?_
          refine Sq.v (r_move (look_t rfl)) rfl rfl rfl ?_
          refine Sq.v (r_sub (look_t rfl) (look_t rfl)) rfl rfl rfl ?_
          obtain ⟨k1, hk1, h⟩ := bind_some h
          refine Sq.v (r_ia (k := k1) ar36 (look_t rfl) (look_t rfl) (idx_some hk1)) rfl rfl rfl ?_
          refine Sq.v (r_load (i := 3) ((Lens.id (Vector (BitVec 8) 512)).comp (Lens.idx (α := BitVec 8) 512 k1 (idx_some hk1).1)) (r := vget x0 k1) ty5 (look_t rfl) rfl rfl rfl) rfl rfl rfl ?_
          refine Sq.v (r_eql8 (look_t rfl) (look_u8 1 rfl)) rfl rfl rfl ?_
          obtain ⟨k2, hk2, h⟩ := bind_some h
          refine Sq.v (r_ia (k := k2) ar111 (look_t rfl) (look_t rfl) (idx_some hk2)) rfl rfl rfl ?_
          refine Sq.store (i := 0) ((Lens.id (Vector Bool 128)).comp (Lens.idx (α := Bool) 128 k2 (idx_some hk2).1)) (v := ((vget x0 k1) == (1#8) : Bool)) (b' := (vset s2.2 k2 ((vget x0 k1) == (1#8)) : Vector Bool 128)) ty4 (look_t rfl) (look_t rfl) rfl rfl rfl ?_
          refine Sq.nil ?_
          refine To.bnorm ?_
          refine To.next ?_
          refine Wp.reg ?_
          refine Sq.v (r_add (look_t rfl) (look_int 1)) rfl rfl rfl ?_
          refine Sq.v (r_move (look_t rfl)) rfl rfl rfl ?_
          refine Sq.nil ?_
          replace h := some_in h
          subst h
          exact To.roundG () 0 rfl (.same rfl (.same rfl (.same rfl (.same rfl (.same rfl (.same rfl (.same rfl (.same rfl (.same rfl .nil)))))))))
        · replace h := cond_f hc h
          refine Wp.exit ?_
          refine To.exit ?_
          replace h := some_in h
          subst h
          exact To.leaveG () 0 rfl (by simp) rfl (.same rfl (.same rfl (.same rfl (.same rfl (.same rfl (.same rfl (.same rfl (.same rfl (.same rfl (.same rfl .nil))))))))))
      · clear hl
        refine To.bexit ?_
        refine To.next ?_
        refine Wp.reg ?_
        refine Sq.v (r_move (look_t rfl)) rfl rfl rfl ?_
        refine Sq.v (r_load (i := 0) (Lens.id (Vector Bool 128)) (r := e2.2.2) ty111 (look_t rfl) rfl rfl rfl) rfl rfl rfl ?_
        obtain ⟨y1, hy1, h⟩ := bind_some h
        refine Sq.v (r_call en63 (C_ref01_Make hy1) ⟨look_t rfl, trivial⟩) rfl rfl rfl ?_
        obtain ⟨k3, hk3, h⟩ := bind_some h
        refine Sq.v (r_ia (k := k3) ar26 (look_t rfl) (look_t rfl) (idx_some hk3)) rfl rfl rfl ?_
        refine Sq.store (i := 1) ((Lens.id (Vector T_api_Value 4)).comp (Lens.idx (α := T_api_Value) 4 k3 (idx_some hk3).1)) (v := (y1 : T_api_Value)) (b' := (vset s1.2 k3 y1 : Vector T_api_Value 4)) ty24 (look_t rfl) (look_t rfl) rfl rfl rfl ?_
        refine Sq.nil ?_
        refine To.bnorm ?_
        refine To.next ?_
        refine Wp.reg ?_
        refine Sq.v (r_add (look_t rfl) (look_int 1)) rfl rfl rfl ?_
        refine Sq.v (r_move (look_t rfl)) rfl rfl rfl ?_
        refine Sq.nil ?_
        replace h := some_in h
        subst h
        exact To.roundG () 1 rfl (.same rfl (.same rfl (.same rfl (.same rfl (.same rfl .nil)))))
    · replace h := cond_f hc h
      refine Wp.exit ?_
      refine To.exit ?_
      replace h := some_in h
      subst h
      exact To.leaveG () 0 rfl (by simp) rfl (.same rfl (.same rfl (.same rfl (.same rfl (.same rfl (.same rfl .nil))))))
  · clear hl
    refine To.bexit ?_
    refine To.next ?_
    refine Wp.seq ?_
    refine Wp.reg ?_
    refine Sq.v (r_load (i := 0) (Lens.id (Vector T_api_Value 4)) (r := e1.2.2) ty26 (look_t rfl) rfl rfl rfl) rfl rfl rfl ?_
    refine Sq.store (i := 1) (Lens.id (Vector T_api_Value 4)) (v := (e1.2.2 : Vector T_api_Value 4)) (b' := (e1.2.2 : Vector T_api_Value 4)) ty26 (look_t rfl) (look_t rfl) rfl rfl rfl ?_
    refine Sq.nil ?_
    refine To.next ?_
    refine Wp.ret ?_
    replace h := some_in h
    subst h
    exact To.end1 rfl (rv_c (i := 1) ty26 rfl rfl)
set_option maxHeartbeats 2000000 in
theorem C_law25_canonical {x0 : T_cube_Cube}  {r : T_cube_Cube} (h : L_law25_canonical x0 = some r) : Meets Try.prog 13 [VP.of (x0)] (VP.of (r)) := by
  unfold L_law25_canonical at h
  refine Meets.of Try.func13 rfl Try.ntmps13 rfl fun W A => ?_
  refine Wp.seq ?_
  refine Wp.reg ?_
  refine Sq.box (z := (x0 : T_cube_Cube)) (look_t rfl) rfl fun p1 => ?_
  refine Sq.alloc zr28 rfl fun p2 => ?_
  refine Sq.nil ?_
  refine To.next ?_
  refine Wp.seq ?_
  refine Wp.seq ?_
  refine Wp.reg ?_
  refine Sq.v (r_move (look_int 0)) rfl rfl rfl ?_
  refine Sq.nil ?_
  refine To.next ?_
  refine Wp.block ?_
  obtain ⟨e1, hl, h⟩ := bind_some h
  refine Wp.loopG (σ := Int × T_cube_Cube) (ε := (Int × Bool × T_cube_Cube)) (γ := Unit) (δ := Unit) hl (fun s1 g1 => [(0, VP.of (x0)), (1, VP.eq (.pointer (some ⟨p1, 0, none⟩))), (2, VP.eq (.pointer (some ⟨p2, 0, none⟩))), (4, VP.of (s1.1))]) (fun s1 g1 => [⟨some p2, .var ((default : T_cube_Cube) : T_cube_Cube)⟩, ⟨some p1, .var (s1.2 : T_cube_Cube)⟩]) (fun q1 => Exit.exit 0) (fun q1 g1 => [(0, VP.of (x0)), (1, VP.eq (.pointer (some ⟨p1, 0, none⟩))), (2, VP.eq (.pointer (some ⟨p2, 0, none⟩))), (4, VP.of (q1.1)), (5, VP.of (q1.2.1))]) (fun q1 g1 => [⟨some p2, .var ((default : T_cube_Cube) : T_cube_Cube)⟩, ⟨some p1, .var (q1.2.2 : T_cube_Cube)⟩]) () rfl (.same rfl (.same rfl (.same rfl (.same rfl .nil)))) (fun s1 r h g1 => ?_) (fun g1 => ?_)
  · clear hl
    refine Wp.seq ?_
    refine Wp.reg ?_
    refine Sq.v (r_lss (look_t rfl) (look_int 4)) rfl rfl rfl ?_
    refine Sq.nil ?_
    refine To.next ?_
    refine Wp.seq ?_
    refine Wp.cond (look_t rfl) (fun hc => ?_) (fun hc => ?_)
    · replace h := cond_t hc h
      refine Wp.skip ?_
      refine To.next ?_
      refine Wp.seq ?_
      refine Wp.block ?_
      refine Wp.seq ?_
      refine Wp.reg ?_
      refine Sq.v (r_move (look_t rfl)) rfl rfl rfl ?_
      refine Sq.v (r_asg (look_t rfl)) rfl rfl rfl ?_
      refine Sq.nil ?_
      refine To.next ?_
      obtain ⟨k1, hk1, h⟩ := bind_some h
      obtain ⟨k2, hk2, h⟩ := bind_some h
      obtain ⟨y1, hy1, h⟩ := bind_some h
      obtain ⟨k3, hk3, h⟩ := bind_some h
      refine Wp.draw mixed 12 [some 7, some 8, some 9, some 10, some 11, some 12, some 13, some 14, some 15, some 16, some 17, some 18] [[], [], [], [1, 2], [3], [], [], [5, 6], [7], [4, 8], [], [0, 10]] [.val (VP.of (s1.1)), .val (VP.of (s1.1)), .val (VP.eq (.pointer (some ⟨p1, 0 + 0, none⟩))), .val (VP.eq (.pointer (some ⟨p1, 0 + 0 + k1 * 2, none⟩))), .val (VP.of (vget s1.2.f_Value k1)), .val (VP.of (s1.1)), .val (VP.eq (.pointer (some ⟨p1, 0 + 8, none⟩))), .val (VP.eq (.pointer (some ⟨p1, 0 + 8 + k2 * 2, none⟩))), .val (VP.of (vget s1.2.f_Mask k2)), .val (VP.of (y1)), .val (VP.eq (.pointer (some ⟨p1, 0 + 0, none⟩))), .val (VP.eq (.pointer (some ⟨p1, 0 + 0 + k3 * 2, none⟩)))] [false, false, false, false, false, false, false, false, false, false, false, false] (by kernel_rfl) rfl rfl rfl (fun ps1 => ⟨fun L' hL => HO.v (r_move (look_t rfl)) rfl, fun L' hL => HO.v (r_move (look_t rfl)) rfl, fun L' hL => HO.v (r_fa fd28_0 (look_t rfl)) rfl, fun L' hL => HO.v (r_ia (k := k1) ar26 (look_t rfl) (look_t rfl) (idx_some hk1)) rfl, fun L' hL => HO.v (r_load (i := 1) (((Lens.id T_cube_Cube).comp le_T_cube_Cube_Value).comp (Lens.idx (α := T_api_Value) 4 k1 (idx_some hk1).1)) (r := vget s1.2.f_Value k1) ty24 (look_t rfl) (hL _ _ rfl rfl) rfl rfl) rfl, fun L' hL => HO.v (r_move (look_t rfl)) rfl, fun L' hL => HO.v (r_fa fd28_1 (look_t rfl)) rfl, fun L' hL => HO.v (r_ia (k := k2) ar26 (look_t rfl) (look_t rfl) (idx_some hk2)) rfl, fun L' hL => HO.v (r_load (i := 1) (((Lens.id T_cube_Cube).comp le_T_cube_Cube_Mask).comp (Lens.idx (α := T_api_Value) 4 k2 (idx_some hk2).1)) (r := vget s1.2.f_Mask k2) ty24 (look_t rfl) (hL _ _ rfl rfl) rfl rfl) rfl, fun L' hL => HO.v (r_call en23 (C_ref01_And hy1) ⟨look_t rfl, look_t rfl, trivial⟩) rfl, fun L' hL => HO.v (r_fa fd28_0 (look_t rfl)) rfl, fun L' hL => HO.v (r_ia (k := k3) ar26 (look_t rfl) (look_t rfl) (idx_some hk3)) rfl, trivial⟩) fun ps1 => ?_
      refine Sq.store (i := 1) (((Lens.id T_cube_Cube).comp le_T_cube_Cube_Value).comp (Lens.idx (α := T_api_Value) 4 k3 (idx_some hk3).1)) (v := (y1 : T_api_Value)) (b' := ({ s1.2 with f_Value := vset s1.2.f_Value k3 y1 } : T_cube_Cube)) ty24 (look_t rfl) (look_t rfl) rfl rfl rfl ?_
      refine Sq.nil ?_
      refine To.bnorm ?_
      refine To.next ?_
      refine Wp.reg ?_
      refine Sq.v (r_add (look_t rfl) (look_int 1)) rfl rfl rfl ?_
      refine Sq.v (r_move (look_t rfl)) rfl rfl rfl ?_
      refine Sq.nil ?_
      replace h := some_in h
      subst h
      exact To.roundG () 0 rfl (.same rfl (.same rfl (.same rfl (.same rfl .nil))))
    · replace h := cond_f hc h
      refine Wp.exit ?_
      refine To.exit ?_
      replace h := some_in h
      subst h
      exact To.leaveG () 0 rfl (by simp) rfl (.same rfl (.same rfl (.same rfl (.same rfl (.same rfl .nil)))))
  · clear hl
    refine To.bexit ?_
    refine To.next ?_
    refine Wp.seq ?_
    refine Wp.reg ?_
    refine Sq.v (r_load (i := 1) (Lens.id T_cube_Cube) (r := e1.2.2) ty28 (look_t rfl) rfl rfl rfl) rfl rfl rfl ?_
    refine Sq.store (i := 0) (Lens.id T_cube_Cube) (v := (e1.2.2 : T_cube_Cube)) (b' := (e1.2.2 : T_cube_Cube)) ty28 (look_t rfl) (look_t rfl) rfl rfl rfl ?_
    refine Sq.nil ?_
    refine To.next ?_
    refine Wp.ret ?_
    replace h := some_in h
    subst h
    exact To.end1 rfl (rv_c (i := 0) ty28 rfl rfl)
set_option maxHeartbeats 2000000 in
theorem C_value_Not {x0 : T_api_Value} {x1 : Int}  {r : T_api_Value} (h : L_value_Not x0 x1 = some r) : Meets Try.prog 89 [VP.of (x0), VP.of (x1)] (VP.of (r)) := by
  unfold L_value_Not at h
  refine Meets.of Try.func89 rfl Try.ntmps89 rfl fun W A => ?_
  refine Wp.seq ?_
  refine Wp.reg ?_
  refine Sq.box (z := (x0 : T_api_Value)) (look_t rfl) rfl fun p1 => ?_
  refine Sq.alloc zr24 rfl fun p2 => ?_
  refine Sq.nil ?_
  refine To.next ?_
  refine Wp.seq ?_
  obtain ⟨y1, hy1, h⟩ := bind_some h
  obtain ⟨y2, hy2, h⟩ := bind_some h
  refine Wp.draw mixed 10 [some 5, some 6, some 7, some 8, some 9, some 10, some 11, some 12, some 13, some 14] [[], [0], [], [2], [3], [], [5], [6], [4, 7], [1, 8]] [.val (VP.of (x1)), .val (VP.of (y1)), .val (VP.eq (.pointer (some ⟨p1, 0 + 0, none⟩))), .val (VP.of (x0.f_Hi)), .val (VP.of (~~~x0.f_Hi)), .val (VP.eq (.pointer (some ⟨p1, 0 + 1, none⟩))), .val (VP.of (x0.f_Lo)), .val (VP.of (~~~x0.f_Lo)), .val (VP.of ({ f_Hi := ~~~x0.f_Hi, f_Lo := ~~~x0.f_Lo : T_api_Value })), .val (VP.of (y2))] [false, false, false, false, false, false, false, false, false, false] (by kernel_rfl) rfl rfl rfl (fun ps1 => ⟨fun L' hL => HO.v (r_move (look_t rfl)) rfl, fun L' hL => HO.v (r_call en106 (C_value_Ones hy1) ⟨look_t rfl, trivial⟩) rfl, fun L' hL => HO.v (r_fa fd24_0 (look_t rfl)) rfl, fun L' hL => HO.v (r_load (i := 1) ((Lens.id T_api_Value).comp le_T_api_Value_Hi) (r := x0.f_Hi) ty22 (look_t rfl) (hL _ _ rfl rfl) rfl rfl) rfl, fun L' hL => HO.v (r_com64 (look_t rfl)) rfl, fun L' hL => HO.v (r_fa fd24_1 (look_t rfl)) rfl, fun L' hL => HO.v (r_load (i := 1) ((Lens.id T_api_Value).comp le_T_api_Value_Lo) (r := x0.f_Lo) ty22 (look_t rfl) (hL _ _ rfl rfl) rfl rfl) rfl, fun L' hL => HO.v (r_com64 (look_t rfl)) rfl, fun L' hL => HO.v (r_build (b := { f_Hi := ~~~x0.f_Hi, f_Lo := ~~~x0.f_Lo : T_api_Value }) rfl bu24 zr24 (.cons le_T_api_Value_Hi rfl (look_t rfl) rfl (.cons le_T_api_Value_Lo rfl (look_t rfl) rfl (.nil)))) rfl, fun L' hL => HO.v (r_call en56 (C_value_And hy2) ⟨look_t rfl, look_t rfl, trivial⟩) rfl, trivial⟩) fun ps1 => ?_
  refine Sq.store (i := 0) (Lens.id T_api_Value) (v := (y2 : T_api_Value)) (b' := (y2 : T_api_Value)) ty24 (look_t rfl) (look_t rfl) rfl rfl rfl ?_
  refine Sq.nil ?_
  refine To.next ?_
  refine Wp.ret ?_
  replace h := some_in h
  subst h
  exact To.end1 rfl (rv_c (i := 0) ty24 rfl rfl)
set_option maxHeartbeats 2000000 in
theorem C_cube_has {x0 : Vector T_api_Value 4} {x1 : Int}  {r : Bool} (h : L_cube_has x0 x1 = some r) : Meets Try.prog 54 [VP.of (x0), VP.of (x1)] (VP.of (r)) := by
  unfold L_cube_has at h
  refine Meets.of Try.func54 rfl Try.ntmps54 rfl fun W A => ?_
  refine Wp.seq ?_
  refine Wp.reg ?_
  refine Sq.box (z := (x0 : Vector T_api_Value 4)) (look_t rfl) rfl fun p1 => ?_
  refine Sq.v (r_asg (look_bool false)) rfl rfl rfl ?_
  refine Sq.nil ?_
  refine To.next ?_
  refine Wp.seq ?_
  refine Wp.reg ?_
  refine Sq.v (r_move (look_t rfl)) rfl rfl rfl ?_
  obtain ⟨y1, hy1, h⟩ := bind_some h
  refine Sq.v (r_call en59 (C_cube_place hy1) ⟨look_t rfl, trivial⟩) rfl rfl rfl ?_
  refine Sq.v (r_move (look_t rfl)) rfl rfl rfl ?_
  refine Sq.v (r_ext (look_t rfl) rfl) rfl rfl rfl ?_
  refine Sq.v (r_ext (look_t rfl) rfl) rfl rfl rfl ?_
  refine Sq.v (r_asg (look_t rfl)) rfl rfl rfl ?_
  refine Sq.v (r_asg (look_t rfl)) rfl rfl rfl ?_
  refine Sq.nil ?_
  refine To.next ?_
  refine Wp.seq ?_
  refine Wp.reg ?_
  refine Sq.v (r_move (look_t rfl)) rfl rfl rfl ?_
  obtain ⟨k1, hk1, h⟩ := bind_some h
  refine Sq.v (r_ia (k := k1) ar26 (look_t rfl) (look_t rfl) (idx_some hk1)) rfl rfl rfl ?_
  refine Sq.v (r_load (i := 0) ((Lens.id (Vector T_api_Value 4)).comp (Lens.idx (α := T_api_Value) 4 k1 (idx_some hk1).1)) (r := vget x0 k1) ty24 (look_t rfl) rfl rfl rfl) rfl rfl rfl ?_
  refine Sq.v (r_move (look_t rfl)) rfl rfl rfl ?_
  obtain ⟨y2, hy2, h⟩ := bind_some h
  refine Sq.v (r_call en90 (C_value_Bit hy2) ⟨look_t rfl, look_t rfl, trivial⟩) rfl rfl rfl ?_
  refine Sq.v (r_asg (look_t rfl)) rfl rfl rfl ?_
  refine Sq.nil ?_
  refine To.next ?_
  refine Wp.ret ?_
  replace h := some_in h
  subst h
  exact To.end1 rfl (rv_t rfl)
set_option maxHeartbeats 2000000 in
theorem C_law25_bits {x0 : T_cube_Cube}  {r : (Vector (BitVec 8) 512)} (h : L_law25_bits x0 = some r) : Meets Try.prog 17 [VP.of (x0)] (VP.of (r)) := by
  unfold L_law25_bits at h
  refine Meets.of Try.func17 rfl Try.ntmps17 rfl fun W A => ?_
  refine Wp.seq ?_
  refine Wp.reg ?_
  refine Sq.box (z := (x0 : T_cube_Cube)) (look_t rfl) rfl fun p1 => ?_
  refine Sq.alloc zr36 rfl fun p2 => ?_
  refine Sq.nil ?_
  refine To.next ?_
  refine Wp.seq ?_
  refine Wp.reg ?_
  refine Sq.v (r_fa fd28_0 (look_t rfl)) rfl rfl rfl ?_
  refine Sq.v (r_load (i := 1) ((Lens.id T_cube_Cube).comp le_T_cube_Cube_Value) (r := x0.f_Value) ty26 (look_t rfl) rfl rfl rfl) rfl rfl rfl ?_
  refine Sq.v (r_fa fd28_1 (look_t rfl)) rfl rfl rfl ?_
  refine Sq.v (r_load (i := 1) ((Lens.id T_cube_Cube).comp le_T_cube_Cube_Mask) (r := x0.f_Mask) ty26 (look_t rfl) rfl rfl rfl) rfl rfl rfl ?_
  obtain ⟨y1, hy1, h⟩ := bind_some h
  refine Sq.v (r_call en55 (C_ref25_Read hy1) ⟨look_t rfl, look_t rfl, trivial⟩) rfl rfl rfl ?_
  refine Sq.store (i := 0) (Lens.id (Vector (BitVec 8) 512)) (v := (y1 : Vector (BitVec 8) 512)) (b' := (y1 : Vector (BitVec 8) 512)) ty36 (look_t rfl) (look_t rfl) rfl rfl rfl ?_
  refine Sq.nil ?_
  refine To.next ?_
  refine Wp.ret ?_
  replace h := some_in h
  subst h
  exact To.end1 rfl (rv_c (i := 0) ty36 rfl rfl)
set_option maxHeartbeats 2000000 in
theorem C_cube_Within {x0 : T_cube_Cube} {x1 : T_cube_Cube}  {r : Bool} (h : L_cube_Within x0 x1 = some r) : Meets Try.prog 27 [VP.of (x0), VP.of (x1)] (VP.of (r)) := by
  unfold L_cube_Within at h
  refine Meets.of Try.func27 rfl Try.ntmps27 rfl fun W A => ?_
  refine Wp.seq ?_
  refine Wp.reg ?_
  refine Sq.box (z := (x0 : T_cube_Cube)) (look_t rfl) rfl fun p1 => ?_
  refine Sq.box (z := (x1 : T_cube_Cube)) (look_t rfl) rfl fun p2 => ?_
  refine Sq.v (r_asg (look_bool false)) rfl rfl rfl ?_
  refine Sq.nil ?_
  refine To.next ?_
  refine Wp.seq ?_
  refine Wp.reg ?_
  refine Sq.v (r_load (i := 1) (Lens.id T_cube_Cube) (r := x0) ty28 (look_t rfl) rfl rfl rfl) rfl rfl rfl ?_
  refine Sq.v (r_load (i := 0) (Lens.id T_cube_Cube) (r := x1) ty28 (look_t rfl) rfl rfl rfl) rfl rfl rfl ?_
  obtain ⟨y1, hy1, h⟩ := bind_some h
  refine Sq.v (r_call en18 (C_cube_Meet hy1) ⟨look_t rfl, look_t rfl, trivial⟩) rfl rfl rfl ?_
  refine Sq.v (r_move (look_t rfl)) rfl rfl rfl ?_
  refine Sq.v (r_ext (look_t rfl) rfl) rfl rfl rfl ?_
  refine Sq.v (r_ext (look_t rfl) rfl) rfl rfl rfl ?_
  refine Sq.alloc zr28 rfl fun p3 => ?_
  refine Sq.store (i := 0) (Lens.id T_cube_Cube) (v := (y1.1 : T_cube_Cube)) (b' := (y1.1 : T_cube_Cube)) ty28 (look_t rfl) (look_t rfl) rfl rfl rfl ?_
  refine Sq.v (r_asg (look_t rfl)) rfl rfl rfl ?_
  refine Sq.nil ?_
  refine To.next ?_
  refine Wp.seq ?_
  refine Wp.reg ?_
  refine Sq.v (r_move (look_t rfl)) rfl rfl rfl ?_
  refine Sq.v (r_move (look_t rfl)) rfl rfl rfl ?_
  refine Sq.g (fun hb => r_load (i := 0) (Lens.id T_cube_Cube) (r := y1.1) ty28 (look_t rfl) rfl rfl rfl) rfl rfl rfl rfl rfl ?_
  refine Sq.g (fun hb => r_load (i := 2) (Lens.id T_cube_Cube) (r := x0) ty28 (look_t rfl) rfl rfl rfl) rfl rfl rfl rfl rfl ?_
  refine Sq.g (fun hb => r_eqA eqv28 rfl eqg28 rfl (look_tc rfl hb) (look_tc rfl hb)) rfl rfl rfl rfl rfl ?_
  refine Sq.v (r_and (look_t rfl) (look_t rfl) (fun h => h)) rfl rfl rfl ?_
  refine Sq.v (r_asg (look_t rfl)) rfl rfl rfl ?_
  refine Sq.nil ?_
  refine To.next ?_
  refine Wp.ret ?_
  replace h := some_in h
  subst h
  exact To.end1 rfl (rv_t rfl)
set_option maxHeartbeats 2000000 in
theorem C_ref25_Contains {x0 : Vector (BitVec 8) 512} {x1 : Vector T_api_Value 4}  {r : Bool} (h : L_ref25_Contains x0 x1 = some r) : Meets Try.prog 29 [VP.of (x0), VP.of (x1)] (VP.of (r)) := by
  unfold L_ref25_Contains at h
  refine Meets.of Try.func29 rfl Try.ntmps29 rfl fun W A => ?_
  refine Wp.seq ?_
  refine Wp.reg ?_
  refine Sq.box (z := (x0 : Vector (BitVec 8) 512)) (look_t rfl) rfl fun p1 => ?_
  refine Sq.box (z := (x1 : Vector T_api_Value 4)) (look_t rfl) rfl fun p2 => ?_
  refine Sq.v (r_asg (look_bool false)) rfl rfl rfl ?_
  refine Sq.nil ?_
  refine To.next ?_
  refine Wp.seq ?_
  obtain ⟨y1, hy1, h⟩ := bind_some h
  obtain ⟨y2, hy2, h⟩ := bind_some h
  obtain ⟨y3, hy3, h⟩ := bind_some h
  obtain ⟨y4, hy4, h⟩ := bind_some h
  obtain ⟨z1, hz1, h⟩ := bind_some h
  obtain ⟨y5, hy5, h⟩ := bind_some h
  refine Wp.draw mixed 8 [some 7, some 8, some 9, some 10, some 11, some 12, some 13, some 5] [[], [], [], [], [], [1, 2, 3, 4], [0, 5], []] [.val (VP.of (x1)), .val (VP.of (y1)), .val (VP.of (y2)), .val (VP.of (y3)), .val (VP.of (y4)), .val (VP.of (z1)), .val (VP.of (y5)), .new (.var (default : Vector (BitVec 8) 512))] [false, false, false, false, false, false, false, false] (by kernel_rfl) rfl rfl rfl (fun ps1 => ⟨fun L' hL => HO.v (r_load (i := 0) (Lens.id (Vector T_api_Value 4)) (r := x1) ty26 (look_t rfl) (hL _ _ rfl rfl) rfl rfl) rfl, fun L' hL => HO.v (r_call en65 (C_ref01_Ones hy1) ⟨look_int 128, trivial⟩) rfl, fun L' hL => HO.v (r_call en65 (C_ref01_Ones hy2) ⟨look_int 128, trivial⟩) rfl, fun L' hL => HO.v (r_call en65 (C_ref01_Ones hy3) ⟨look_int 128, trivial⟩) rfl, fun L' hL => HO.v (r_call en65 (C_ref01_Ones hy4) ⟨look_int 128, trivial⟩) rfl, fun L' hL => HO.v ((r_buildA (b := vset (vset (vset (vset (default : Vector T_api_Value 4) 0 y1) 1 y2) 2 y3) 3 y4) (sz := 2) rfl Try.underlying26 (by kernel_rfl) zr26 (.cons (Lens.idx 4 0 (by decide)) rfl (look_t rfl) rfl (.cons (Lens.idx 4 1 (by decide)) rfl (look_t rfl) rfl (.cons (Lens.idx 4 2 (by decide)) rfl (look_t rfl) rfl (.cons (Lens.idx 4 3 (by decide)) rfl (look_t rfl) rfl (.nil)))))).as (some_in hz1)) rfl, fun L' hL => HO.v (r_call en55 (C_ref25_Read hy5) ⟨look_t rfl, look_t rfl, trivial⟩) rfl, ao_alloc zr36, trivial⟩) fun ps1 => ?_
  refine Sq.store (i := 0) (Lens.id (Vector (BitVec 8) 512)) (v := (y5 : Vector (BitVec 8) 512)) (b' := (y5 : Vector (BitVec 8) 512)) ty36 (look_t rfl) (look_t rfl) rfl rfl rfl ?_
  refine Sq.nil ?_
  refine To.next ?_
  refine Wp.seq ?_
  refine Wp.seq ?_
  refine Wp.reg ?_
  refine Sq.v (r_move (look_int 0)) rfl rfl rfl ?_
  refine Sq.nil ?_
  refine To.next ?_
  refine Wp.block ?_
  obtain ⟨e1, hl, h⟩ := bind_some h
  refine Wp.loopG (σ := Int) (ε := (Int × Bool) ⊕ (Int × Int × Bool × Bool)) (γ := Unit) (δ := Unit) hl (fun s1 g1 => [(0, VP.of (x0)), (1, VP.of (x1)), (2, VP.eq (.pointer (some ⟨p1, 0, none⟩))), (3, VP.eq (.pointer (some ⟨p2, 0, none⟩))), (4, VP.of (false)), (5, VP.eq (.pointer (some ⟨(ps1 7), 0, none⟩))), (14, VP.of (s1))]) (fun s1 g1 => [⟨some (ps1 7), .var (y5 : Vector (BitVec 8) 512)⟩, ⟨some p2, .var (x1 : Vector T_api_Value 4)⟩, ⟨some p1, .var (x0 : Vector (BitVec 8) 512)⟩]) (fun q1 => Sum.elim (fun q1 => Exit.exit 0) (fun q1 => Exit.ret) q1) (fun q1 g1 => Sum.elim (fun q1 => [(0, VP.of (x0)), (1, VP.of (x1)), (2, VP.eq (.pointer (some ⟨p1, 0, none⟩))), (3, VP.eq (.pointer (some ⟨p2, 0, none⟩))), (4, VP.of (false)), (5, VP.eq (.pointer (some ⟨(ps1 7), 0, none⟩))), (14, VP.of (q1.1)), (15, VP.of (q1.2))]) (fun q1 => [(0, VP.of (x0)), (1, VP.of (x1)), (2, VP.eq (.pointer (some ⟨p1, 0, none⟩))), (3, VP.eq (.pointer (some ⟨p2, 0, none⟩))), (4, VP.of (false)), (5, VP.eq (.pointer (some ⟨(ps1 7), 0, none⟩))), (6, VP.of (q1.1)), (14, VP.of (q1.2.1)), (15, VP.of (q1.2.2.1)), (29, VP.of (q1.2.2.2))]) q1) (fun q1 g1 => Sum.elim (fun q1 => [⟨some (ps1 7), .var (y5 : Vector (BitVec 8) 512)⟩, ⟨some p2, .var (x1 : Vector T_api_Value 4)⟩, ⟨some p1, .var (x0 : Vector (BitVec 8) 512)⟩]) (fun q1 => [⟨some (ps1 7), .var (y5 : Vector (BitVec 8) 512)⟩, ⟨some p2, .var (x1 : Vector T_api_Value 4)⟩, ⟨some p1, .var (x0 : Vector (BitVec 8) 512)⟩]) q1) () rfl (.same rfl (.same rfl (.same rfl (.same rfl (.same rfl (.same rfl (.same rfl .nil))))))) (fun s1 r h g1 => ?_) (fun g1 => ?_)
  · clear hl
    refine Wp.seq ?_
    refine Wp.reg ?_
    refine Sq.v (r_lss (look_t rfl) (look_int 512)) rfl rfl rfl ?_
    refine Sq.nil ?_
    refine To.next ?_
    refine Wp.seq ?_
    refine Wp.cond (look_t rfl) (fun hc => ?_) (fun hc => ?_)
    · replace h := cond_t hc h
      refine Wp.skip ?_
      refine To.next ?_
      refine Wp.seq ?_
      refine Wp.block ?_
      refine Wp.seq ?_
      refine Wp.reg ?_
      refine Sq.v (r_move (look_t rfl)) rfl rfl rfl ?_
      refine Sq.v (r_asg (look_t rfl)) rfl rfl rfl ?_
      refine Sq.nil ?_
      refine To.next ?_
      refine Wp.seq ?_
      obtain ⟨k1, hk1, h⟩ := bind_some h
      obtain ⟨k2, hk2, h⟩ := bind_some h
      obtain ⟨k3, hk3, h⟩ := bind_some h
      refine Wp.draw mixed 13 [some 17, some 18, some 19, some 20, some 21, some 22, some 23, some 24, some 25, some 26, some 27, some 28, some 29] [[], [0], [1], [2], [3], [4], [4, 5], [4, 6], [4], [4, 8], [4, 9], [4, 7, 10], [4, 11]] [.val (VP.of (s1)), .val (VP.eq (.pointer (some ⟨p1, 0 + k1 * 1, none⟩))), .val (VP.of (vget x0 k1)), .val (VP.of ((vget x0 k1) != (2#8))), .val (VP.of ((vget x0 k1) != (2#8))), .val (VP.cond (((vget x0 k1) != (2#8)) = true) (VP.of (s1))), .val (VP.cond (((vget x0 k1) != (2#8)) = true) (VP.eq (.pointer (some ⟨p1, 0 + k2 * 1, none⟩)))), .val (VP.cond (((vget x0 k1) != (2#8)) = true) (VP.of (vget x0 k2))), .val (VP.cond (((vget x0 k1) != (2#8)) = true) (VP.of (s1))), .val (VP.cond (((vget x0 k1) != (2#8)) = true) (VP.eq (.pointer (some ⟨(ps1 7), 0 + k3 * 1, none⟩)))), .val (VP.cond (((vget x0 k1) != (2#8)) = true) (VP.of (vget y5 k3))), .val (VP.cond (((vget x0 k1) != (2#8)) = true) (VP.of ((vget x0 k2) != (vget y5 k3)))), .val (VP.of (((vget x0 k1) != (2#8)) && ((vget x0 k2) != (vget y5 k3))))] [false, false, false, false, false, false, false, false, false, false, false, false, false] (by kernel_rfl) rfl rfl rfl (fun ps2 => ⟨fun L' hL => HO.v (r_move (look_t rfl)) rfl, fun L' hL => HO.v (r_ia (k := k1) ar36 (look_t rfl) (look_t rfl) (idx_some hk1)) rfl, fun L' hL => HO.v (r_load (i := 2) ((Lens.id (Vector (BitVec 8) 512)).comp (Lens.idx (α := BitVec 8) 512 k1 (idx_some hk1).1)) (r := vget x0 k1) ty5 (look_t rfl) (hL _ _ rfl rfl) rfl rfl) rfl, fun L' hL => HO.v (r_neq8 (look_t rfl) (look_u8 2 rfl)) rfl, fun L' hL => HO.v (r_move (look_t rfl)) rfl, fun L' hL => HO.g (fun hb => r_move (look_t rfl)) rfl rfl rfl, fun L' hL => HO.g (fun hb => r_ia (k := k2) ar36 (look_t rfl) (look_tc rfl hb) (idx_some (condM_some hk2 hb))) rfl rfl rfl, fun L' hL => HO.g (fun hb => r_load (i := 2) ((Lens.id (Vector (BitVec 8) 512)).comp (Lens.idx (α := BitVec 8) 512 k2 (idx_some (condM_some hk2 hb)).1)) (r := vget x0 k2) ty5 (look_tc rfl hb) (hL _ _ rfl rfl) rfl rfl) rfl rfl rfl, fun L' hL => HO.g (fun hb => r_move (look_t rfl)) rfl rfl rfl, fun L' hL => HO.g (fun hb => r_ia (k := k3) ar36 (look_t rfl) (look_tc rfl hb) (idx_some (condM_some hk3 hb))) rfl rfl rfl, fun L' hL => HO.g (fun hb => r_load (i := 0) ((Lens.id (Vector (BitVec 8) 512)).comp (Lens.idx (α := BitVec 8) 512 k3 (idx_some (condM_some hk3 hb)).1)) (r := vget y5 k3) ty5 (look_tc rfl hb) (hL _ _ rfl rfl) rfl rfl) rfl rfl rfl, fun L' hL => HO.g (fun hb => r_neq8 (look_tc rfl hb) (look_tc rfl hb)) rfl rfl rfl, fun L' hL => HO.v (r_and (look_t rfl) (look_t rfl) (fun h => h)) rfl, trivial⟩) fun ps2 => ?_
      refine Sq.nil ?_
      refine To.next ?_
      refine Wp.cond (look_t rfl) (fun hc => ?_) (fun hc => ?_)
      · replace h := cond_t hc h
        refine Wp.seq ?_
        refine Wp.reg ?_
        refine Sq.v (r_asg (look_bool false)) rfl rfl rfl ?_
        refine Sq.nil ?_
        refine To.next ?_
        refine Wp.ret ?_
        refine To.bret ?_
        refine To.ret ?_
        replace h := some_in h
        subst h
        exact To.leaveG () 0 rfl (by simp) rfl (.same rfl (.same rfl (.same rfl (.same rfl (.same rfl (.same rfl (.same rfl (.same rfl (.same rfl (.same rfl .nil))))))))))
      · replace h := cond_f hc h
        refine Wp.skip ?_
        refine To.bnorm ?_
        refine To.next ?_
        refine Wp.reg ?_
        refine Sq.v (r_add (look_t rfl) (look_int 1)) rfl rfl rfl ?_
        refine Sq.v (r_move (look_t rfl)) rfl rfl rfl ?_
        refine Sq.nil ?_
        replace h := some_in h
        subst h
        exact To.roundG () 0 rfl (.same rfl (.same rfl (.same rfl (.same rfl (.same rfl (.same rfl (.same rfl .nil)))))))
    · replace h := cond_f hc h
      refine Wp.exit ?_
      refine To.exit ?_
      replace h := some_in h
      subst h
      exact To.leaveG () 0 rfl (by simp) rfl (.same rfl (.same rfl (.same rfl (.same rfl (.same rfl (.same rfl (.same rfl (.same rfl .nil))))))))
  · clear hl
    rcases e1 with e1 | e1
    · simp only [Sum.elim_inl] at h
      refine To.bexit ?_
      refine To.next ?_
      refine Wp.seq ?_
      refine Wp.reg ?_
      refine Sq.v (r_asg (look_bool true)) rfl rfl rfl ?_
      refine Sq.nil ?_
      refine To.next ?_
      refine Wp.ret ?_
      replace h := some_in h
      subst h
      exact To.end1 rfl (rv_t rfl)
    · simp only [Sum.elim_inr] at h
      refine To.bret ?_
      refine To.ret ?_
      replace h := some_in h
      subst h
      exact To.end1 rfl (rv_t rfl)
set_option maxHeartbeats 2000000 in
theorem C_cover_near_fn1 {x0 : T_cube_Cube} {x1 : T_cube_Cube}  {r : Bool} (h : L_cover_near_fn1 x0 x1 = some r) : Meets Try.prog 93 [VP.of (x0), VP.ptr x1] (VP.of (r)) := by
  unfold L_cover_near_fn1 at h
  refine Meets.of Try.func93 rfl Try.ntmps93 rfl fun W A => ?_
  refine Wp.seq ?_
  refine Wp.reg ?_
  refine Sq.box (z := (x0 : T_cube_Cube)) (look_t rfl) rfl fun p1 => ?_
  refine Sq.v (r_asg (look_bool false)) rfl rfl rfl ?_
  refine Sq.nil ?_
  refine To.next ?_
  refine Wp.seq ?_
  refine Wp.reg ?_
  refine Sq.v (r_loadp ty28 (look_t rfl)) rfl rfl rfl ?_
  refine Sq.v (r_load (i := 0) (Lens.id T_cube_Cube) (r := x0) ty28 (look_t rfl) rfl rfl rfl) rfl rfl rfl ?_
  obtain ⟨y1, hy1, h⟩ := bind_some h
  refine Sq.v (r_call en18 (C_cube_Meet hy1) ⟨look_t rfl, look_t rfl, trivial⟩) rfl rfl rfl ?_
  refine Sq.v (r_move (look_t rfl)) rfl rfl rfl ?_
  refine Sq.v (r_ext (look_t rfl) rfl) rfl rfl rfl ?_
  refine Sq.v (r_ext (look_t rfl) rfl) rfl rfl rfl ?_
  refine Sq.alloc zr28 rfl fun p2 => ?_
  refine Sq.store (i := 0) (Lens.id T_cube_Cube) (v := (y1.1 : T_cube_Cube)) (b' := (y1.1 : T_cube_Cube)) ty28 (look_t rfl) (look_t rfl) rfl rfl rfl ?_
  refine Sq.v (r_asg (look_t rfl)) rfl rfl rfl ?_
  refine Sq.nil ?_
  refine To.next ?_
  refine Wp.seq ?_
  refine Wp.reg ?_
  refine Sq.v (r_move (look_t rfl)) rfl rfl rfl ?_
  refine Sq.v (r_not (look_t rfl)) rfl rfl rfl ?_
  refine Sq.v (r_asg (look_t rfl)) rfl rfl rfl ?_
  refine Sq.nil ?_
  refine To.next ?_
  refine Wp.ret ?_
  replace h := some_in h
  subst h
  exact To.end1 rfl (rv_t rfl)
set_option maxHeartbeats 2000000 in
theorem C_cover_has {x0 : Vector T_api_Value 4} {x1 : Int}  {r : Bool} (h : L_cover_has x0 x1 = some r) : Meets Try.prog 114 [VP.of (x0), VP.of (x1)] (VP.of (r)) := by
  unfold L_cover_has at h
  refine Meets.of Try.func114 rfl Try.ntmps114 rfl fun W A => ?_
  refine Wp.seq ?_
  refine Wp.reg ?_
  refine Sq.box (z := (x0 : Vector T_api_Value 4)) (look_t rfl) rfl fun p1 => ?_
  refine Sq.v (r_asg (look_bool false)) rfl rfl rfl ?_
  refine Sq.nil ?_
  refine To.next ?_
  refine Wp.seq ?_
  refine Wp.reg ?_
  refine Sq.v (r_move (look_t rfl)) rfl rfl rfl ?_
  obtain ⟨y1, hy1, h⟩ := bind_some h
  refine Sq.v (r_quo (look_t rfl) (look_int 128) (divM_some hy1)) rfl rfl rfl ?_
  obtain ⟨k1, hk1, h⟩ := bind_some h
  refine Sq.v (r_ia (k := k1) ar26 (look_t rfl) (look_t rfl) (idx_some hk1)) rfl rfl rfl ?_
  refine Sq.v (r_load (i := 0) ((Lens.id (Vector T_api_Value 4)).comp (Lens.idx (α := T_api_Value) 4 k1 (idx_some hk1).1)) (r := vget x0 k1) ty24 (look_t rfl) rfl rfl rfl) rfl rfl rfl ?_
  refine Sq.v (r_move (look_t rfl)) rfl rfl rfl ?_
  obtain ⟨y2, hy2, h⟩ := bind_some h
  refine Sq.v (r_rem (look_t rfl) (look_int 128) (modM_some hy2)) rfl rfl rfl ?_
  refine Sq.v (r_sub (look_int 127) (look_t rfl)) rfl rfl rfl ?_
  obtain ⟨y3, hy3, h⟩ := bind_some h
  refine Sq.v (r_call en90 (C_value_Bit hy3) ⟨look_t rfl, look_t rfl, trivial⟩) rfl rfl rfl ?_
  refine Sq.v (r_asg (look_t rfl)) rfl rfl rfl ?_
  refine Sq.nil ?_
  refine To.next ?_
  refine Wp.ret ?_
  replace h := some_in h
  subst h
  exact To.end1 rfl (rv_t rfl)
set_option maxHeartbeats 2000000 in
theorem C_law26_bits {x0 : List T_cube_Cube}  {r : (List (Vector (BitVec 8) 512))} (h : L_law26_bits x0 = some r) : Meets Try.prog 35 [VP.of (x0)] (VP.of (r)) := by
  unfold L_law26_bits at h
  refine Meets.of Try.func35 rfl Try.ntmps35 rfl fun W A => ?_
  refine Wp.seq ?_
  refine Wp.reg ?_
  refine Sq.v (r_asg (look_nil (α := Vector (BitVec 8) 512))) rfl rfl rfl ?_
  refine Sq.nil ?_
  refine To.next ?_
  refine Wp.seq ?_
  refine Wp.reg ?_
  refine Sq.own (α := Vector (BitVec 8) 512) 36 ?_
  refine Sq.v (r_asg look_own) rfl rfl rfl ?_
  refine Sq.nil ?_
  refine To.next ?_
  refine Wp.seq ?_
  refine Wp.seq ?_
  refine Wp.reg ?_
  refine Sq.v (r_move (look_t rfl)) rfl rfl rfl ?_
  refine Sq.v (r_len Try.underlying31 (look_t rfl)) rfl rfl rfl ?_
  refine Sq.v (r_move (look_int 0)) rfl rfl rfl ?_
  refine Sq.nil ?_
  refine To.next ?_
  refine Wp.block ?_
  obtain ⟨e1, hl, h⟩ := bind_some h
  refine Wp.loopG (σ := Int × (List (Vector (BitVec 8) 512))) (ε := (Int × Bool × (List (Vector (BitVec 8) 512)))) (γ := (Option Nat × Nat)) (δ := (Option Nat × Nat)) hl (fun s1 g1 => [(0, VP.of (x0)), (2, VP.of ([] : List (Vector (BitVec 8) 512))), (3, VP.eq (slv g1.1 s1.2.length g1.2)), (6, VP.of (x0)), (7, VP.of (x0.length : Int)), (8, VP.of (s1.1))]) (fun s1 g1 => [⟨g1.1, .row 36 (s1.2 : List (Vector (BitVec 8) 512)) g1.2⟩]) (fun q1 => Exit.exit 0) (fun q1 g1 => [(0, VP.of (x0)), (2, VP.of ([] : List (Vector (BitVec 8) 512))), (3, VP.eq (slv g1.1 q1.2.2.length g1.2)), (6, VP.of (x0)), (7, VP.of (x0.length : Int)), (8, VP.of (q1.1)), (9, VP.of (q1.2.1))]) (fun q1 g1 => [⟨g1.1, .row 36 (q1.2.2 : List (Vector (BitVec 8) 512)) g1.2⟩]) (none, 0) rfl (.same rfl (.same rfl (.same rfl (.same rfl (.same rfl (.same rfl .nil)))))) (fun s1 r h g1 => ?_) (fun g1 => ?_)
  · clear hl
    refine Wp.seq ?_
    refine Wp.reg ?_
    refine Sq.v (r_lss (look_t rfl) (look_t rfl)) rfl rfl rfl ?_
    refine Sq.nil ?_
    refine To.next ?_
    refine Wp.seq ?_
    refine Wp.cond (look_t rfl) (fun hc => ?_) (fun hc => ?_)
    · replace h := cond_t hc h
      refine Wp.skip ?_
      refine To.next ?_
      refine Wp.seq ?_
      refine Wp.block ?_
      refine Wp.seq ?_
      refine Wp.reg ?_
      obtain ⟨k1, hk1, h⟩ := bind_some h
      refine Sq.v (r_ias (k := k1) Try.underlying31 ty28 (look_t rfl) (look_t rfl) (idx_some hk1)) rfl rfl rfl ?_
      refine Sq.v (r_loadp ty28 (look_t rfl)) rfl rfl rfl ?_
      refine Sq.alloc zr28 rfl fun p1 => ?_
      refine Sq.store (i := 0) (Lens.id T_cube_Cube) (v := (lget x0 k1 : T_cube_Cube)) (b' := (lget x0 k1 : T_cube_Cube)) ty28 (look_t rfl) (look_t rfl) rfl rfl rfl ?_
      refine Sq.nil ?_
      refine To.next ?_
      refine Wp.reg ?_
      refine Sq.v (r_move (look_t rfl)) rfl rfl rfl ?_
      refine Sq.v (r_fa fd28_0 (look_t rfl)) rfl rfl rfl ?_
      refine Sq.v (r_load (i := 0) ((Lens.id T_cube_Cube).comp le_T_cube_Cube_Value) (r := (lget x0 k1).f_Value) ty26 (look_t rfl) rfl rfl rfl) rfl rfl rfl ?_
      refine Sq.v (r_fa fd28_1 (look_t rfl)) rfl rfl rfl ?_
      refine Sq.v (r_load (i := 0) ((Lens.id T_cube_Cube).comp le_T_cube_Cube_Mask) (r := (lget x0 k1).f_Mask) ty26 (look_t rfl) rfl rfl rfl) rfl rfl rfl ?_
      obtain ⟨y1, hy1, h⟩ := bind_some h
      refine Sq.v (r_call en55 (C_ref25_Read hy1) ⟨look_t rfl, look_t rfl, trivial⟩) rfl rfl rfl ?_
      refine Sq.v (r_bsl (r := [y1]) Try.underlying33 ty36 zr36 rfl rfl (.cons (by simp) (look_t rfl) (.nil))) rfl rfl rfl ?_
      obtain ⟨y2, hy2, h⟩ := bind_some h
      refine Sq.app (i := 1) Try.underlying33 ty36 zr36 (bytes := 512) (by kernel_rfl) (look_t rfl) rfl (look_t rfl) hy2 rfl fun key1 cap1 => ?_
      refine Sq.v (r_asg (look_t rfl)) rfl rfl rfl ?_
      refine Sq.nil ?_
      refine To.bnorm ?_
      refine To.next ?_
      refine Wp.reg ?_
      refine Sq.v (r_add (look_t rfl) (look_int 1)) rfl rfl rfl ?_
      refine Sq.v (r_move (look_t rfl)) rfl rfl rfl ?_
      refine Sq.nil ?_
      replace h := some_in h
      subst h
      exact To.roundG (key1, cap1) 1 rfl (.same rfl (.same rfl (.same rfl (.same rfl (.same rfl (.same rfl .nil))))))
    · replace h := cond_f hc h
      refine Wp.exit ?_
      refine To.exit ?_
      replace h := some_in h
      subst h
      exact To.leaveG (g1.1, g1.2) 0 rfl (by simp) rfl (.same rfl (.same rfl (.same rfl (.same rfl (.same rfl (.same rfl (.same rfl .nil)))))))
  · clear hl
    refine To.bexit ?_
    refine To.next ?_
    refine Wp.seq ?_
    refine Wp.reg ?_
    refine Sq.v (r_move (look_t rfl)) rfl rfl rfl ?_
    refine Sq.v (r_asg (look_t rfl)) rfl rfl rfl ?_
    refine Sq.nil ?_
    refine To.next ?_
    refine Wp.ret ?_
    refine To.freeze (α := Vector (BitVec 8) 512) 0 2 rfl rfl ?_
    replace h := some_in h
    subst h
    exact To.end1 rfl (rv_t rfl)
end Go.Proofs.Ytabodolbdalimaa
