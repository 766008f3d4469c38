/-
  Printed by the decompiler (dec.py) out of the seat's translation. Each function meets its functional program. Conditions: none.
-/
import Derived.Test.YtabodolbdalimaaDc0
import Derived.Test.YtabodolbdalimaaDc1
import Derived.Test.YtabodolbdalimaaDc2
import Derived.Test.YtabodolbdalimaaDc4
import Derived.Test.YtabodolbdalimaaDc5
namespace Go.Proofs.Ytabodolbdalimaa
open Go Gv
set_option linter.unusedVariables false
set_option linter.unusedSimpArgs false
set_option maxRecDepth 100000
set_option maxHeartbeats 2000000 in
theorem Cr_ref26_covered (n : Nat) : ∀ (x0 : Vector (BitVec 8) 512) (x1 : List (Vector (BitVec 8) 512))  (r : Bool), Lr_ref26_covered n x0 x1 = some r → Meets Try.prog 70 [VP.of (x0), VP.of (x1)] (VP.of (r)) := by
  induction n with
  | zero => intro x0 x1  r h; simp [Lr_ref26_covered] at h
  | succ n ih =>
    intro x0 x1  r h
    simp only [Lr_ref26_covered] at h
    refine Meets.of Try.func70 rfl Try.ntmps70 rfl fun W A => ?_
    refine Wp.seq ?_
    refine Wp.reg ?_
    refine Sq.box (z := (x0 : Vector (BitVec 8) 512)) (look_t rfl) rfl fun p1 => ?_
    refine Sq.v (r_asg (look_bool false)) rfl rfl rfl ?_
    refine Sq.nil ?_
    refine To.next ?_
    refine Wp.seq ?_
    refine Wp.reg ?_
    refine Sq.v (r_load (i := 0) (Lens.id (Vector (BitVec 8) 512)) (r := x0) ty36 (look_t rfl) rfl rfl rfl) rfl rfl rfl ?_
    refine Sq.v (r_move (look_t rfl)) rfl rfl rfl ?_
    obtain ⟨y1, hy1, h⟩ := bind_some h
    refine Sq.v (r_call en69 (C_ref26_near hy1) ⟨look_t rfl, look_t rfl, trivial⟩) rfl rfl rfl ?_
    refine Sq.v (r_asg (look_t rfl)) rfl rfl rfl ?_
    refine Sq.nil ?_
    refine To.next ?_
    refine Wp.seq ?_
    refine Wp.seq ?_
    refine Wp.reg ?_
    refine Sq.v (r_move (look_t rfl)) rfl rfl rfl ?_
    refine Sq.v (r_len Try.underlying33 (look_t rfl)) rfl rfl rfl ?_
    refine Sq.v (r_eql (look_t rfl) (look_int 0)) rfl rfl rfl ?_
    refine Sq.nil ?_
    refine To.next ?_
    refine Wp.cond (look_t rfl) (fun hc => ?_) (fun hc => ?_)
    · replace h := cond_t hc h
      refine Wp.seq ?_
      refine Wp.reg ?_
      refine Sq.v (r_asg (look_bool false)) rfl rfl rfl ?_
      refine Sq.nil ?_
      refine To.next ?_
      refine Wp.ret ?_
      refine To.ret ?_
      replace h := some_in h
      subst h
      exact To.end1 rfl (rv_t rfl)
    · replace h := cond_f hc h
      refine Wp.skip ?_
      refine To.next ?_
      refine Wp.seq ?_
      refine Wp.seq ?_
      refine Wp.reg ?_
      refine Sq.v (r_move (look_t rfl)) rfl rfl rfl ?_
      refine Sq.v (r_len Try.underlying33 (look_t rfl)) rfl rfl rfl ?_
      refine Sq.v (r_move (look_int 0)) rfl rfl rfl ?_
      refine Sq.nil ?_
      refine To.next ?_
      refine Wp.block ?_
      obtain ⟨e1, hl, h⟩ := bind_some h
      refine Wp.loopG (σ := Int) (ε := (Int × Bool) ⊕ (Bool × Int × Bool × Bool)) (γ := Unit) (δ := Unit) hl (fun s1 g1 => [(0, VP.of (x0)), (1, VP.of (y1)), (2, VP.eq (.pointer (some ⟨p1, 0, none⟩))), (4, VP.of (false)), (15, VP.of ((y1.length : Int) == 0)), (16, VP.of (y1)), (17, VP.of (y1.length : Int)), (18, VP.of (s1))]) (fun s1 g1 => [⟨some p1, .var (x0 : Vector (BitVec 8) 512)⟩]) (fun q1 => Sum.elim (fun q1 => Exit.exit 0) (fun q1 => Exit.ret) q1) (fun q1 g1 => Sum.elim (fun q1 => [(0, VP.of (x0)), (1, VP.of (y1)), (2, VP.eq (.pointer (some ⟨p1, 0, none⟩))), (4, VP.of (false)), (15, VP.of ((y1.length : Int) == 0)), (16, VP.of (y1)), (17, VP.of (y1.length : Int)), (18, VP.of (q1.1)), (19, VP.of (q1.2))]) (fun q1 => [(0, VP.of (x0)), (1, VP.of (y1)), (2, VP.eq (.pointer (some ⟨p1, 0, none⟩))), (4, VP.of (q1.1)), (15, VP.of ((y1.length : Int) == 0)), (16, VP.of (y1)), (17, VP.of (y1.length : Int)), (18, VP.of (q1.2.1)), (19, VP.of (q1.2.2.1)), (24, VP.of (q1.2.2.2))]) q1) (fun q1 g1 => Sum.elim (fun q1 => [⟨some p1, .var (x0 : Vector (BitVec 8) 512)⟩]) (fun q1 => [⟨some p1, .var (x0 : Vector (BitVec 8) 512)⟩]) q1) () rfl (.same rfl (.same rfl (.same rfl (.same rfl (.same rfl (.same rfl (.same rfl (.same rfl .nil)))))))) (fun s1 r h g1 => ?_) (fun g1 => ?_)
      · clear hl
        refine Wp.seq ?_
        refine Wp.reg ?_
        refine Sq.v (r_lss (look_t rfl) (look_t rfl)) rfl rfl rfl ?_
        refine Sq.nil ?_
        refine To.next ?_
        refine Wp.seq ?_
        refine Wp.cond (look_t rfl) (fun hc => ?_) (fun hc => ?_)
        · replace h := cond_t hc h
          refine Wp.skip ?_
          refine To.next ?_
          refine Wp.seq ?_
          refine Wp.block ?_
          refine Wp.seq ?_
          refine Wp.reg ?_
          obtain ⟨k1, hk1, h⟩ := bind_some h
          refine Sq.v (r_ias (k := k1) Try.underlying33 ty36 (look_t rfl) (look_t rfl) (idx_some hk1)) rfl rfl rfl ?_
          refine Sq.v (r_loadp ty36 (look_t rfl)) rfl rfl rfl ?_
          refine Sq.alloc zr36 rfl fun p2 => ?_
          refine Sq.store (i := 0) (Lens.id (Vector (BitVec 8) 512)) (v := (lget y1 k1 : Vector (BitVec 8) 512)) (b' := (lget y1 k1 : Vector (BitVec 8) 512)) ty36 (look_t rfl) (look_t rfl) rfl rfl rfl ?_
          refine Sq.nil ?_
          refine To.next ?_
          refine Wp.seq ?_
          refine Wp.reg ?_
          refine Sq.v (r_load (i := 1) (Lens.id (Vector (BitVec 8) 512)) (r := x0) ty36 (look_t rfl) rfl rfl rfl) rfl rfl rfl ?_
          refine Sq.v (r_load (i := 0) (Lens.id (Vector (BitVec 8) 512)) (r := (lget y1 k1)) ty36 (look_t rfl) rfl rfl rfl) rfl rfl rfl ?_
          obtain ⟨y2, hy2, h⟩ := bind_some h
          refine Sq.v (r_call en28 (C_ref25_Within hy2) ⟨look_t rfl, look_t rfl, trivial⟩) rfl rfl rfl ?_
          refine Sq.nil ?_
          refine To.next ?_
          refine Wp.cond (look_t rfl) (fun hc => ?_) (fun hc => ?_)
          · replace h := cond_t hc h
            refine Wp.seq ?_
            refine Wp.reg ?_
            refine Sq.v (r_asg (look_bool true)) rfl rfl rfl ?_
            refine Sq.nil ?_
            refine To.next ?_
            refine Wp.ret ?_
            refine To.bret ?_
            refine To.ret ?_
            replace h := some_in h
            subst h
            exact To.leaveG () 1 rfl (by simp) rfl (.same rfl (.same rfl (.same rfl (.same rfl (.same rfl (.same rfl (.same rfl (.same rfl (.same rfl (.same rfl .nil))))))))))
          · replace h := cond_f hc h
            refine Wp.skip ?_
            refine To.bnorm ?_
            refine To.next ?_
            refine Wp.reg ?_
            refine Sq.v (r_add (look_t rfl) (look_int 1)) rfl rfl rfl ?_
            refine Sq.v (r_move (look_t rfl)) rfl rfl rfl ?_
            refine Sq.nil ?_
            replace h := some_in h
            subst h
            exact To.roundG () 1 rfl (.same rfl (.same rfl (.same rfl (.same rfl (.same rfl (.same rfl (.same rfl (.same rfl .nil))))))))
        · replace h := cond_f hc h
          refine Wp.exit ?_
          refine To.exit ?_
          replace h := some_in h
          subst h
          exact To.leaveG () 0 rfl (by simp) rfl (.same rfl (.same rfl (.same rfl (.same rfl (.same rfl (.same rfl (.same rfl (.same rfl (.same rfl .nil)))))))))
      · clear hl
        rcases e1 with e1 | e1
        · simp only [Sum.elim_inl] at h
          refine To.bexit ?_
          refine To.next ?_
          refine Wp.seq ?_
          refine Wp.seq ?_
          refine Wp.reg ?_
          refine Sq.v (r_move (look_int 0)) rfl rfl rfl ?_
          refine Sq.nil ?_
          refine To.next ?_
          refine Wp.block ?_
          obtain ⟨e2, hl, h⟩ := bind_some h
          refine Wp.loopG (σ := Int) (ε := (Int × Bool) ⊕ (Bool × Int × Int × Bool × Bool)) (γ := Unit) (δ := Unit) hl (fun s2 g2 => [(0, VP.of (x0)), (1, VP.of (y1)), (2, VP.eq (.pointer (some ⟨p1, 0, none⟩))), (4, VP.of (false)), (15, VP.of ((y1.length : Int) == 0)), (16, VP.of (y1)), (17, VP.of (y1.length : Int)), (18, VP.of (e1.1)), (19, VP.of (e1.2)), (26, VP.of (s2))]) (fun s2 g2 => [⟨some p1, .var (x0 : Vector (BitVec 8) 512)⟩]) (fun q2 => Sum.elim (fun q2 => Exit.exit 2) (fun q2 => Exit.ret) q2) (fun q2 g2 => Sum.elim (fun q2 => [(0, VP.of (x0)), (1, VP.of (y1)), (2, VP.eq (.pointer (some ⟨p1, 0, none⟩))), (4, VP.of (false)), (15, VP.of ((y1.length : Int) == 0)), (16, VP.of (y1)), (17, VP.of (y1.length : Int)), (18, VP.of (e1.1)), (19, VP.of (e1.2)), (26, VP.of (q2.1)), (27, VP.of (q2.2))]) (fun q2 => [(0, VP.of (x0)), (1, VP.of (y1)), (2, VP.eq (.pointer (some ⟨p1, 0, none⟩))), (4, VP.of (q2.1)), (7, VP.of (q2.2.1)), (15, VP.of ((y1.length : Int) == 0)), (16, VP.of (y1)), (17, VP.of (y1.length : Int)), (18, VP.of (e1.1)), (19, VP.of (e1.2)), (26, VP.of (q2.2.2.1)), (27, VP.of (q2.2.2.2.1)), (40, VP.of (q2.2.2.2.2))]) q2) (fun q2 g2 => Sum.elim (fun q2 => [⟨some p1, .var (x0 : Vector (BitVec 8) 512)⟩]) (fun q2 => [⟨some p1, .var (x0 : Vector (BitVec 8) 512)⟩]) q2) () rfl (.same rfl (.same rfl (.same rfl (.same rfl (.same rfl (.same rfl (.same rfl (.same rfl (.same rfl (.same rfl .nil)))))))))) (fun s2 r h g2 => ?_) (fun g2 => ?_)
          · clear hl
            refine Wp.seq ?_
            refine Wp.reg ?_
            refine Sq.v (r_lss (look_t rfl) (look_int 512)) rfl rfl rfl ?_
            refine Sq.nil ?_
            refine To.next ?_
            refine Wp.seq ?_
            refine Wp.cond (look_t rfl) (fun hc => ?_) (fun hc => ?_)
            · replace h := cond_t hc h
              refine Wp.skip ?_
              refine To.next ?_
              refine Wp.seq ?_
              refine Wp.block ?_
              refine Wp.seq ?_
              refine Wp.reg ?_
              refine Sq.v (r_move (look_t rfl)) rfl rfl rfl ?_
              refine Sq.v (r_asg (look_t rfl)) rfl rfl rfl ?_
              refine Sq.nil ?_
              refine To.next ?_
              refine Wp.seq ?_
              refine Wp.seq ?_
              refine Wp.reg ?_
              refine Sq.v (r_move (look_t rfl)) rfl rfl rfl ?_
              obtain ⟨k2, hk2, h⟩ := bind_some h
              refine Sq.v (r_ia (k := k2) ar36 (look_t rfl) (look_t rfl) (idx_some hk2)) rfl rfl rfl ?_
              refine Sq.v (r_load (i := 0) ((Lens.id (Vector (BitVec 8) 512)).comp (Lens.idx (α := BitVec 8) 512 k2 (idx_some hk2).1)) (r := vget x0 k2) ty5 (look_t rfl) rfl rfl rfl) rfl rfl rfl ?_
              refine Sq.v (r_neq8 (look_t rfl) (look_u8 2 rfl)) rfl rfl rfl ?_
              refine Sq.v (r_move (look_t rfl)) rfl rfl rfl ?_
              refine Sq.g (fun hb => r_move (look_t rfl)) rfl rfl rfl rfl rfl ?_
              refine Sq.g (fun hb => r_move (look_t rfl)) rfl rfl rfl rfl rfl ?_
              obtain ⟨k3, hk3, h⟩ := bind_some h
              refine Sq.g (fun hb => r_ias (k := k3) Try.underlying33 ty36 (look_tc rfl hb) (look_int 0) (idx_some (condM_some hk3 hb))) rfl rfl rfl rfl rfl ?_
              obtain ⟨k4, hk4, h⟩ := bind_some h
              refine Sq.g (fun hb => r_iap (k := k4) ar36 rfl (look_tc rfl hb) (look_tc rfl hb) (idx_some (condM_some hk4 hb))) rfl rfl rfl rfl rfl ?_
              refine Sq.g (fun hb => r_loadp ty5 (look_tc rfl hb)) rfl rfl rfl rfl rfl ?_
              refine Sq.g (fun hb => r_eql8 (look_tc rfl hb) (look_u8 2 rfl)) rfl rfl rfl rfl rfl ?_
              refine Sq.v (r_or (look_t rfl) (look_t rfl) (fun h => h)) rfl rfl rfl ?_
              refine Sq.nil ?_
              refine To.next ?_
              refine Wp.cond (look_t rfl) (fun hc => ?_) (fun hc => ?_)
              · replace h := cond_t hc h
                refine Wp.exit ?_
                refine To.exit ?_
                refine To.bexit ?_
                refine To.next ?_
                refine Wp.reg ?_
                refine Sq.v (r_add (look_t rfl) (look_int 1)) rfl rfl rfl ?_
                refine Sq.v (r_move (look_t rfl)) rfl rfl rfl ?_
                refine Sq.nil ?_
                replace h := some_in h
                subst h
                exact To.roundG () 0 rfl (.same rfl (.same rfl (.same rfl (.same rfl (.same rfl (.same rfl (.same rfl (.same rfl (.same rfl (.same rfl .nil))))))))))
              · replace h := cond_f hc h
                refine Wp.skip ?_
                refine To.next ?_
                refine Wp.seq ?_
                refine Wp.draw mixed 5 [some 41, some 42, some 8, some 9, none] [[], [], [], [], [0, 2]] [.val (VP.of (x0)), .val (VP.of (x0)), .new (.var (default : Vector (BitVec 8) 512)), .new (.var (default : Vector (BitVec 8) 512)), .stn 2 (.var (x0 : Vector (BitVec 8) 512))] [false, false, false, false, true] (by kernel_rfl) rfl rfl rfl (fun ps1 => ⟨fun L' hL => HO.v (r_load (i := 0) (Lens.id (Vector (BitVec 8) 512)) (r := x0) ty36 (look_t rfl) (hL _ _ rfl (by kernel_rfl)) rfl rfl) rfl, fun L' hL => HO.v (r_load (i := 0) (Lens.id (Vector (BitVec 8) 512)) (r := x0) ty36 (look_t rfl) (hL _ _ rfl (by kernel_rfl)) rfl rfl) rfl, ao_alloc zr36, ao_alloc zr36, ⟨rfl, _, rfl, fun L' q hq => so_var (i := q) (Lens.id (Vector (BitVec 8) 512)) (v := (x0 : Vector (BitVec 8) 512)) (b' := (x0 : Vector (BitVec 8) 512)) ty36 (look_t rfl) (look_t rfl) hq rfl rfl⟩, trivial⟩) fun ps1 => ?_
                refine Sq.store (i := 1) (Lens.id (Vector (BitVec 8) 512)) (v := (x0 : Vector (BitVec 8) 512)) (b' := (x0 : Vector (BitVec 8) 512)) ty36 (look_t rfl) (look_t rfl) rfl rfl rfl ?_
                refine Sq.nil ?_
                refine To.next ?_
                refine Wp.seq ?_
                obtain ⟨k5, hk5, h⟩ := bind_some h
                obtain ⟨k6, hk6, h⟩ := bind_some h
                obtain ⟨k7, hk7, h⟩ := bind_some h
                obtain ⟨k8, hk8, h⟩ := bind_some h
                obtain ⟨k9, hk9, h⟩ := bind_some h
                refine Wp.draw mixed 15 [some 43, some 44, some 45, some 46, some 47, some 48, some 49, some 50, some 51, some 52, some 53, some 54, some 55, some 56, none] [[], [], [], [], [2], [3, 4], [5], [6], [], [], [8], [9, 10], [11], [0], [7, 13]] [.val (VP.of (s2)), .val (VP.of (s2)), .val (VP.of (y1)), .val (VP.of (s2)), .val (VP.ptr (lget y1 k5)), .val (VP.ptr (vget (lget y1 k5) k6)), .val (VP.of (vget (lget y1 k5) k6)), .val (VP.of ((1#8) - (vget (lget y1 k5) k6))), .val (VP.of (y1)), .val (VP.of (s2)), .val (VP.ptr (lget y1 k7)), .val (VP.ptr (vget (lget y1 k7) k8)), .val (VP.of (vget (lget y1 k7) k8)), .val (VP.eq (.pointer (some ⟨(ps1 2), 0 + k9 * 1, none⟩))), .sto 0 (.var (vset x0 k9 ((1#8) - (vget (lget y1 k5) k6)) : Vector (BitVec 8) 512))] [false, false, false, false, false, false, false, false, false, false, false, false, false, false, true] (by kernel_rfl) rfl rfl rfl (fun ps2 => ⟨fun L' hL => HO.v (r_move (look_t rfl)) rfl, fun L' hL => HO.v (r_move (look_t rfl)) rfl, fun L' hL => HO.v (r_move (look_t rfl)) rfl, fun L' hL => HO.v (r_move (look_t rfl)) rfl, fun L' hL => HO.v (r_ias (k := k5) Try.underlying33 ty36 (look_t rfl) (look_int 0) (idx_some hk5)) rfl, fun L' hL => HO.v (r_iap (k := k6) ar36 rfl (look_t rfl) (look_t rfl) (idx_some hk6)) rfl, fun L' hL => HO.v (r_loadp ty5 (look_t rfl)) rfl, fun L' hL => HO.v (r_sub8 (look_u8 1 rfl) (look_t rfl)) rfl, fun L' hL => HO.v (r_move (look_t rfl)) rfl, fun L' hL => HO.v (r_move (look_t rfl)) rfl, fun L' hL => HO.v (r_ias (k := k7) Try.underlying33 ty36 (look_t rfl) (look_int 0) (idx_some hk7)) rfl, fun L' hL => HO.v (r_iap (k := k8) ar36 rfl (look_t rfl) (look_t rfl) (idx_some hk8)) rfl, fun L' hL => HO.v (r_loadp ty5 (look_t rfl)) rfl, fun L' hL => HO.v (r_ia (k := k9) ar36 (look_t rfl) (look_t rfl) (idx_some hk9)) rfl, ⟨_, _, rfl, fun L' hL => so_var (i := 0) ((Lens.id (Vector (BitVec 8) 512)).comp (Lens.idx (α := BitVec 8) 512 k9 (idx_some hk9).1)) (v := ((1#8) - (vget (lget y1 k5) k6) : BitVec 8)) (b' := (vset x0 k9 ((1#8) - (vget (lget y1 k5) k6)) : Vector (BitVec 8) 512)) ty5 (look_t rfl) (look_t rfl) (hL _ _ rfl) rfl rfl⟩, trivial⟩) fun ps2 => ?_
                obtain ⟨k10, hk10, h⟩ := bind_some h
                refine Sq.v (r_ia (k := k10) ar36 (look_t rfl) (look_t rfl) (idx_some hk10)) rfl rfl rfl ?_
                refine Sq.store (i := 1) ((Lens.id (Vector (BitVec 8) 512)).comp (Lens.idx (α := BitVec 8) 512 k10 (idx_some hk10).1)) (v := (vget (lget y1 k7) k8 : BitVec 8)) (b' := (vset x0 k10 (vget (lget y1 k7) k8) : Vector (BitVec 8) 512)) ty5 (look_t rfl) (look_t rfl) rfl rfl rfl ?_
                refine Sq.nil ?_
                refine To.next ?_
                refine Wp.seq ?_
                refine Wp.reg ?_
                refine Sq.v (r_load (i := 0) (Lens.id (Vector (BitVec 8) 512)) (r := (vset x0 k9 ((1#8) - (vget (lget y1 k5) k6)))) ty36 (look_t rfl) rfl rfl rfl) rfl rfl rfl ?_
                refine Sq.v (r_move (look_t rfl)) rfl rfl rfl ?_
                obtain ⟨y3, hy3, h⟩ := bind_some h
                refine Sq.v (r_call en70 (ih _ _ _ hy3) ⟨look_t rfl, look_t rfl, trivial⟩) rfl rfl rfl ?_
                refine Sq.v (r_move (look_t rfl)) rfl rfl rfl ?_
                refine Sq.g (fun hb => r_load (i := 1) (Lens.id (Vector (BitVec 8) 512)) (r := (vset x0 k10 (vget (lget y1 k7) k8))) ty36 (look_t rfl) rfl rfl rfl) rfl rfl rfl rfl rfl ?_
                refine Sq.g (fun hb => r_move (look_t rfl)) rfl rfl rfl rfl rfl ?_
                obtain ⟨y4, hy4, h⟩ := bind_some h
                refine Sq.g (fun hb => r_call en70 (ih _ _ _ (condM_some hy4 hb)) ⟨look_tc rfl hb, look_tc rfl hb, trivial⟩) rfl rfl rfl rfl rfl ?_
                refine Sq.v (r_and (look_t rfl) (look_t rfl) (fun h => h)) rfl rfl rfl ?_
                refine Sq.v (r_asg (look_t rfl)) rfl rfl rfl ?_
                refine Sq.nil ?_
                refine To.next ?_
                refine Wp.ret ?_
                refine To.bret ?_
                refine To.ret ?_
                replace h := some_in h
                subst h
                exact To.leaveG () 2 rfl (by simp) rfl (.same rfl (.same rfl (.same rfl (.same rfl (.same rfl (.same rfl (.same rfl (.same rfl (.same rfl (.same rfl (.same rfl (.same rfl (.same rfl .nil)))))))))))))
            · replace h := cond_f hc h
              refine Wp.exit ?_
              refine To.exit ?_
              replace h := some_in h
              subst h
              exact To.leaveG () 0 rfl (by simp) rfl (.same rfl (.same rfl (.same rfl (.same rfl (.same rfl (.same rfl (.same rfl (.same rfl (.same rfl (.same rfl (.same rfl .nil)))))))))))
          · clear hl
            rcases e2 with e2 | e2
            · simp only [Sum.elim_inl] at h
              refine To.bexit ?_
              refine To.next ?_
              refine Wp.seq ?_
              refine Wp.reg ?_
              refine Sq.v (r_asg (look_bool false)) rfl rfl rfl ?_
              refine Sq.nil ?_
              refine To.next ?_
              refine Wp.ret ?_
              replace h := some_in h
              subst h
              exact To.end1 rfl (rv_t rfl)
            · simp only [Sum.elim_inr] at h
              refine To.bret ?_
              refine To.ret ?_
              replace h := some_in h
              subst h
              exact To.end1 rfl (rv_t rfl)
        · simp only [Sum.elim_inr] at h
          refine To.bret ?_
          refine To.ret ?_
          replace h := some_in h
          subst h
          exact To.end1 rfl (rv_t rfl)
theorem C_ref26_covered {x0 : Vector (BitVec 8) 512} {x1 : List (Vector (BitVec 8) 512)}  {r : Bool} (h : L_ref26_covered x0 x1 = some r) : Meets Try.prog 70 [VP.of (x0), VP.of (x1)] (VP.of (r)) := Cr_ref26_covered FUEL x0 x1  r h
set_option maxHeartbeats 2000000 in
theorem C_law25_near {x0 : T_cube_Cube} {x1 : T_cube_Cube}  {r : T_cube_Cube} (h : L_law25_near x0 x1 = some r) : Meets Try.prog 14 [VP.of (x0), VP.of (x1)] (VP.of (r)) := by
  unfold L_law25_near at h
  refine Meets.of Try.func14 rfl Try.ntmps14 rfl fun W A => ?_
  refine Wp.seq ?_
  refine Wp.reg ?_
  refine Sq.box (z := (x0 : T_cube_Cube)) (look_t rfl) rfl fun p1 => ?_
  refine Sq.box (z := (x1 : T_cube_Cube)) (look_t rfl) rfl fun p2 => ?_
  refine Sq.alloc zr28 rfl fun p3 => ?_
  refine Sq.nil ?_
  refine To.next ?_
  refine Wp.seq ?_
  refine Wp.seq ?_
  refine Wp.reg ?_
  refine Sq.v (r_move (look_int 0)) rfl rfl rfl ?_
  refine Sq.nil ?_
  refine To.next ?_
  refine Wp.block ?_
  obtain ⟨e1, hl, h⟩ := bind_some h
  refine Wp.loopG (σ := Int × T_cube_Cube) (ε := (Int × Bool × T_cube_Cube)) (γ := Unit) (δ := Unit) hl (fun s1 g1 => [(0, VP.of (x0)), (1, VP.of (x1)), (2, VP.eq (.pointer (some ⟨p1, 0, none⟩))), (3, VP.eq (.pointer (some ⟨p2, 0, none⟩))), (4, VP.eq (.pointer (some ⟨p3, 0, none⟩))), (6, VP.of (s1.1))]) (fun s1 g1 => [⟨some p3, .var ((default : T_cube_Cube) : T_cube_Cube)⟩, ⟨some p2, .var (x1 : T_cube_Cube)⟩, ⟨some p1, .var (s1.2 : T_cube_Cube)⟩]) (fun q1 => Exit.exit 0) (fun q1 g1 => [(0, VP.of (x0)), (1, VP.of (x1)), (2, VP.eq (.pointer (some ⟨p1, 0, none⟩))), (3, VP.eq (.pointer (some ⟨p2, 0, none⟩))), (4, VP.eq (.pointer (some ⟨p3, 0, none⟩))), (6, VP.of (q1.1)), (7, VP.of (q1.2.1))]) (fun q1 g1 => [⟨some p3, .var ((default : T_cube_Cube) : T_cube_Cube)⟩, ⟨some p2, .var (x1 : T_cube_Cube)⟩, ⟨some p1, .var (q1.2.2 : T_cube_Cube)⟩]) () rfl (.same rfl (.same rfl (.same rfl (.same rfl (.same rfl (.same rfl .nil)))))) (fun s1 r h g1 => ?_) (fun g1 => ?_)
  · clear hl
    refine Wp.seq ?_
    refine Wp.reg ?_
    refine Sq.v (r_lss (look_t rfl) (look_int 4)) rfl rfl rfl ?_
    refine Sq.nil ?_
    refine To.next ?_
    refine Wp.seq ?_
    refine Wp.cond (look_t rfl) (fun hc => ?_) (fun hc => ?_)
    · replace h := cond_t hc h
      refine Wp.skip ?_
      refine To.next ?_
      refine Wp.seq ?_
      refine Wp.block ?_
      refine Wp.seq ?_
      refine Wp.reg ?_
      refine Sq.v (r_move (look_t rfl)) rfl rfl rfl ?_
      refine Sq.v (r_asg (look_t rfl)) rfl rfl rfl ?_
      refine Sq.nil ?_
      refine To.next ?_
      refine Wp.seq ?_
      obtain ⟨k1, hk1, h⟩ := bind_some h
      obtain ⟨k2, hk2, h⟩ := bind_some h
      obtain ⟨y1, hy1, h⟩ := bind_some h
      obtain ⟨y2, hy2, h⟩ := bind_some h
      obtain ⟨k3, hk3, h⟩ := bind_some h
      refine Wp.draw mixed 13 [some 9, some 10, some 11, some 12, some 13, some 14, some 15, some 16, some 17, some 18, some 19, some 20, some 21] [[], [], [], [1, 2], [3], [], [], [5, 6], [7], [8], [4, 9], [], [0, 11]] [.val (VP.of (s1.1)), .val (VP.of (s1.1)), .val (VP.eq (.pointer (some ⟨p1, 0 + 8, none⟩))), .val (VP.eq (.pointer (some ⟨p1, 0 + 8 + k1 * 2, none⟩))), .val (VP.of (vget s1.2.f_Mask k1)), .val (VP.of (s1.1)), .val (VP.eq (.pointer (some ⟨p2, 0 + 8, none⟩))), .val (VP.eq (.pointer (some ⟨p2, 0 + 8 + k2 * 2, none⟩))), .val (VP.of (vget x1.f_Mask k2)), .val (VP.of (y1)), .val (VP.of (y2)), .val (VP.eq (.pointer (some ⟨p1, 0 + 8, none⟩))), .val (VP.eq (.pointer (some ⟨p1, 0 + 8 + k3 * 2, none⟩)))] [false, false, false, false, false, false, false, false, false, false, false, false, false] (by kernel_rfl) rfl rfl rfl (fun ps1 => ⟨fun L' hL => HO.v (r_move (look_t rfl)) rfl, fun L' hL => HO.v (r_move (look_t rfl)) rfl, fun L' hL => HO.v (r_fa fd28_1 (look_t rfl)) rfl, fun L' hL => HO.v (r_ia (k := k1) ar26 (look_t rfl) (look_t rfl) (idx_some hk1)) rfl, fun L' hL => HO.v (r_load (i := 2) (((Lens.id T_cube_Cube).comp le_T_cube_Cube_Mask).comp (Lens.idx (α := T_api_Value) 4 k1 (idx_some hk1).1)) (r := vget s1.2.f_Mask k1) ty24 (look_t rfl) (hL _ _ rfl rfl) rfl rfl) rfl, fun L' hL => HO.v (r_move (look_t rfl)) rfl, fun L' hL => HO.v (r_fa fd28_1 (look_t rfl)) rfl, fun L' hL => HO.v (r_ia (k := k2) ar26 (look_t rfl) (look_t rfl) (idx_some hk2)) rfl, fun L' hL => HO.v (r_load (i := 1) (((Lens.id T_cube_Cube).comp le_T_cube_Cube_Mask).comp (Lens.idx (α := T_api_Value) 4 k2 (idx_some hk2).1)) (r := vget x1.f_Mask k2) ty24 (look_t rfl) (hL _ _ rfl rfl) rfl rfl) rfl, fun L' hL => HO.v (r_call en48 (C_mcase_Low hy1) ⟨look_t rfl, look_int 6, trivial⟩) rfl, fun L' hL => HO.v (r_call en51 (C_ref01_Xor hy2) ⟨look_t rfl, look_t rfl, trivial⟩) rfl, fun L' hL => HO.v (r_fa fd28_1 (look_t rfl)) rfl, fun L' hL => HO.v (r_ia (k := k3) ar26 (look_t rfl) (look_t rfl) (idx_some hk3)) rfl, trivial⟩) fun ps1 => ?_
      refine Sq.store (i := 2) (((Lens.id T_cube_Cube).comp le_T_cube_Cube_Mask).comp (Lens.idx (α := T_api_Value) 4 k3 (idx_some hk3).1)) (v := (y2 : T_api_Value)) (b' := ({ s1.2 with f_Mask := vset s1.2.f_Mask k3 y2 } : T_cube_Cube)) ty24 (look_t rfl) (look_t rfl) rfl rfl rfl ?_
      refine Sq.nil ?_
      refine To.next ?_
      obtain ⟨k4, hk4, h⟩ := bind_some h
      obtain ⟨k5, hk5, h⟩ := bind_some h
      obtain ⟨y3, hy3, h⟩ := bind_some h
      obtain ⟨y4, hy4, h⟩ := bind_some h
      obtain ⟨k6, hk6, h⟩ := bind_some h
      refine Wp.draw mixed 13 [some 22, some 23, some 24, some 25, some 26, some 27, some 28, some 29, some 30, some 31, some 32, some 33, some 34] [[], [], [], [1, 2], [3], [], [], [5, 6], [7], [8], [4, 9], [], [0, 11]] [.val (VP.of (s1.1)), .val (VP.of (s1.1)), .val (VP.eq (.pointer (some ⟨p1, 0 + 0, none⟩))), .val (VP.eq (.pointer (some ⟨p1, 0 + 0 + k4 * 2, none⟩))), .val (VP.of (vget (({ s1.2 with f_Mask := vset s1.2.f_Mask k3 y2 }).f_Value) k4)), .val (VP.of (s1.1)), .val (VP.eq (.pointer (some ⟨p2, 0 + 0, none⟩))), .val (VP.eq (.pointer (some ⟨p2, 0 + 0 + k5 * 2, none⟩))), .val (VP.of (vget x1.f_Value k5)), .val (VP.of (y3)), .val (VP.of (y4)), .val (VP.eq (.pointer (some ⟨p1, 0 + 0, none⟩))), .val (VP.eq (.pointer (some ⟨p1, 0 + 0 + k6 * 2, none⟩)))] [false, false, false, false, false, false, false, false, false, false, false, false, false] (by kernel_rfl) rfl rfl rfl (fun ps2 => ⟨fun L' hL => HO.v (r_move (look_t rfl)) rfl, fun L' hL => HO.v (r_move (look_t rfl)) rfl, fun L' hL => HO.v (r_fa fd28_0 (look_t rfl)) rfl, fun L' hL => HO.v (r_ia (k := k4) ar26 (look_t rfl) (look_t rfl) (idx_some hk4)) rfl, fun L' hL => HO.v (r_load (i := 2) (((Lens.id T_cube_Cube).comp le_T_cube_Cube_Value).comp (Lens.idx (α := T_api_Value) 4 k4 (idx_some hk4).1)) (r := vget (({ s1.2 with f_Mask := vset s1.2.f_Mask k3 y2 }).f_Value) k4) ty24 (look_t rfl) (hL _ _ rfl rfl) rfl rfl) rfl, fun L' hL => HO.v (r_move (look_t rfl)) rfl, fun L' hL => HO.v (r_fa fd28_0 (look_t rfl)) rfl, fun L' hL => HO.v (r_ia (k := k5) ar26 (look_t rfl) (look_t rfl) (idx_some hk5)) rfl, fun L' hL => HO.v (r_load (i := 1) (((Lens.id T_cube_Cube).comp le_T_cube_Cube_Value).comp (Lens.idx (α := T_api_Value) 4 k5 (idx_some hk5).1)) (r := vget x1.f_Value k5) ty24 (look_t rfl) (hL _ _ rfl rfl) rfl rfl) rfl, fun L' hL => HO.v (r_call en48 (C_mcase_Low hy3) ⟨look_t rfl, look_int 2, trivial⟩) rfl, fun L' hL => HO.v (r_call en51 (C_ref01_Xor hy4) ⟨look_t rfl, look_t rfl, trivial⟩) rfl, fun L' hL => HO.v (r_fa fd28_0 (look_t rfl)) rfl, fun L' hL => HO.v (r_ia (k := k6) ar26 (look_t rfl) (look_t rfl) (idx_some hk6)) rfl, trivial⟩) fun ps2 => ?_
      obtain ⟨z1, hz1, h⟩ := bind_some h
      refine Sq.store (i := 2) (((Lens.id T_cube_Cube).comp le_T_cube_Cube_Value).comp (Lens.idx (α := T_api_Value) 4 k6 (idx_some hk6).1)) (v := (y4 : T_api_Value)) (b' := (z1 : T_cube_Cube)) ty24 (look_t rfl) (look_t rfl) rfl rfl (some_in hz1) ?_
      refine Sq.nil ?_
      refine To.bnorm ?_
      refine To.next ?_
      refine Wp.reg ?_
      refine Sq.v (r_add (look_t rfl) (look_int 1)) rfl rfl rfl ?_
      refine Sq.v (r_move (look_t rfl)) rfl rfl rfl ?_
      refine Sq.nil ?_
      replace h := some_in h
      subst h
      exact To.roundG () 0 rfl (.same rfl (.same rfl (.same rfl (.same rfl (.same rfl (.same rfl .nil))))))
    · replace h := cond_f hc h
      refine Wp.exit ?_
      refine To.exit ?_
      replace h := some_in h
      subst h
      exact To.leaveG () 0 rfl (by simp) rfl (.same rfl (.same rfl (.same rfl (.same rfl (.same rfl (.same rfl (.same rfl .nil)))))))
  · clear hl
    refine To.bexit ?_
    refine To.next ?_
    refine Wp.seq ?_
    refine Wp.reg ?_
    refine Sq.v (r_load (i := 2) (Lens.id T_cube_Cube) (r := e1.2.2) ty28 (look_t rfl) rfl rfl rfl) rfl rfl rfl ?_
    obtain ⟨y5, hy5, h⟩ := bind_some h
    refine Sq.v (r_call en13 (C_law25_canonical hy5) ⟨look_t rfl, trivial⟩) rfl rfl rfl ?_
    refine Sq.store (i := 0) (Lens.id T_cube_Cube) (v := (y5 : T_cube_Cube)) (b' := (y5 : T_cube_Cube)) ty28 (look_t rfl) (look_t rfl) rfl rfl rfl ?_
    refine Sq.nil ?_
    refine To.next ?_
    refine Wp.ret ?_
    replace h := some_in h
    subst h
    exact To.end1 rfl (rv_c (i := 0) ty28 rfl rfl)
set_option maxHeartbeats 2000000 in
theorem C_cube_without {x0 : T_api_Value} {x1 : T_api_Value}  {r : T_api_Value} (h : L_cube_without x0 x1 = some r) : Meets Try.prog 53 [VP.of (x0), VP.of (x1)] (VP.of (r)) := by
  unfold L_cube_without at h
  refine Meets.of Try.func53 rfl Try.ntmps53 rfl fun W A => ?_
  refine Wp.seq ?_
  refine Wp.reg ?_
  refine Sq.box (z := (x0 : T_api_Value)) (look_t rfl) rfl fun p1 => ?_
  refine Sq.box (z := (x1 : T_api_Value)) (look_t rfl) rfl fun p2 => ?_
  refine Sq.alloc zr24 rfl fun p3 => ?_
  refine Sq.nil ?_
  refine To.next ?_
  refine Wp.seq ?_
  obtain ⟨y1, hy1, h⟩ := bind_some h
  obtain ⟨y2, hy2, h⟩ := bind_some h
  refine Wp.draw mixed 4 [some 5, some 6, some 7, some 8] [[], [], [1], [0, 2]] [.val (VP.of (x0)), .val (VP.of (x1)), .val (VP.of (y1)), .val (VP.of (y2))] [false, false, false, false] (by kernel_rfl) rfl rfl rfl (fun ps1 => ⟨fun L' hL => HO.v (r_load (i := 2) (Lens.id T_api_Value) (r := x0) ty24 (look_t rfl) (hL _ _ rfl rfl) rfl rfl) rfl, fun L' hL => HO.v (r_load (i := 1) (Lens.id T_api_Value) (r := x1) ty24 (look_t rfl) (hL _ _ rfl rfl) rfl rfl) rfl, fun L' hL => HO.v (r_call en89 (C_value_Not hy1) ⟨look_t rfl, look_int 128, trivial⟩) rfl, fun L' hL => HO.v (r_call en56 (C_value_And hy2) ⟨look_t rfl, look_t rfl, trivial⟩) rfl, trivial⟩) fun ps1 => ?_
  refine Sq.store (i := 0) (Lens.id T_api_Value) (v := (y2 : T_api_Value)) (b' := (y2 : T_api_Value)) ty24 (look_t rfl) (look_t rfl) rfl rfl rfl ?_
  refine Sq.nil ?_
  refine To.next ?_
  refine Wp.ret ?_
  replace h := some_in h
  subst h
  exact To.end1 rfl (rv_c (i := 0) ty24 rfl rfl)
set_option maxHeartbeats 2000000 in
theorem C_cube_Fix {x0 : T_cube_Cube} {x1 : Int} {x2 : Bool}  {r : T_cube_Cube} (h : L_cube_Fix x0 x1 x2 = some r) : Meets Try.prog 21 [VP.of (x0), VP.of (x1), VP.of (x2)] (VP.of (r)) := by
  unfold L_cube_Fix at h
  refine Meets.of Try.func21 rfl Try.ntmps21 rfl fun W A => ?_
  refine Wp.seq ?_
  refine Wp.reg ?_
  refine Sq.box (z := (x0 : T_cube_Cube)) (look_t rfl) rfl fun p1 => ?_
  refine Sq.alloc zr28 rfl fun p2 => ?_
  refine Sq.nil ?_
  refine To.next ?_
  refine Wp.seq ?_
  refine Wp.seq ?_
  refine Wp.reg ?_
  refine Sq.v (r_move (look_t rfl)) rfl rfl rfl ?_
  refine Sq.v (r_lss (look_t rfl) (look_int 0)) rfl rfl rfl ?_
  refine Sq.v (r_move (look_t rfl)) rfl rfl rfl ?_
  refine Sq.g (fun hb => r_move (look_t rfl)) rfl rfl rfl rfl rfl ?_
  refine Sq.g (fun hb => r_geq (look_tc rfl hb) (look_int 512)) rfl rfl rfl rfl rfl ?_
  refine Sq.v (r_or (look_t rfl) (look_t rfl) (fun h => h)) rfl rfl rfl ?_
  refine Sq.v (r_move (look_t rfl)) rfl rfl rfl ?_
  refine Sq.g (fun hb => r_fa fd28_1 (look_t rfl)) rfl rfl rfl rfl rfl ?_
  refine Sq.g (fun hb => r_load (i := 1) ((Lens.id T_cube_Cube).comp le_T_cube_Cube_Mask) (r := x0.f_Mask) ty26 (look_tc rfl hb) rfl rfl rfl) rfl rfl rfl rfl rfl ?_
  refine Sq.g (fun hb => r_move (look_t rfl)) rfl rfl rfl rfl rfl ?_
  obtain ⟨y1, hy1, h⟩ := bind_some h
  refine Sq.g (fun hb => r_call en54 (C_cube_has (condM_some hy1 hb)) ⟨look_tc rfl hb, look_tc rfl hb, trivial⟩) rfl rfl rfl rfl rfl ?_
  refine Sq.v (r_or (look_t rfl) (look_t rfl) (fun h => h)) rfl rfl rfl ?_
  refine Sq.nil ?_
  refine To.next ?_
  refine Wp.cond (look_t rfl) (fun hc => ?_) (fun hc => ?_)
  · replace h := cond_t hc h
    refine Wp.seq ?_
    refine Wp.reg ?_
    refine Sq.v (r_load (i := 1) (Lens.id T_cube_Cube) (r := x0) ty28 (look_t rfl) rfl rfl rfl) rfl rfl rfl ?_
    refine Sq.store (i := 0) (Lens.id T_cube_Cube) (v := (x0 : T_cube_Cube)) (b' := (x0 : T_cube_Cube)) ty28 (look_t rfl) (look_t rfl) rfl rfl rfl ?_
    refine Sq.nil ?_
    refine To.next ?_
    refine Wp.ret ?_
    refine To.ret ?_
    replace h := some_in h
    subst h
    exact To.end1 rfl (rv_c (i := 0) ty28 rfl rfl)
  · replace h := cond_f hc h
    refine Wp.skip ?_
    refine To.next ?_
    refine Wp.seq ?_
    refine Wp.reg ?_
    refine Sq.v (r_move (look_t rfl)) rfl rfl rfl ?_
    obtain ⟨y2, hy2, h⟩ := bind_some h
    refine Sq.v (r_call en59 (C_cube_place hy2) ⟨look_t rfl, trivial⟩) rfl rfl rfl ?_
    refine Sq.v (r_move (look_t rfl)) rfl rfl rfl ?_
    refine Sq.v (r_ext (look_t rfl) rfl) rfl rfl rfl ?_
    refine Sq.v (r_ext (look_t rfl) rfl) rfl rfl rfl ?_
    refine Sq.v (r_asg (look_t rfl)) rfl rfl rfl ?_
    refine Sq.v (r_asg (look_t rfl)) rfl rfl rfl ?_
    refine Sq.nil ?_
    refine To.next ?_
    refine Wp.seq ?_
    refine Wp.reg ?_
    obtain ⟨y3, hy3, h⟩ := bind_some h
    refine Sq.v (r_call en61 (C_value_Of hy3) ⟨look_u64 1 rfl, trivial⟩) rfl rfl rfl ?_
    refine Sq.v (r_move (look_t rfl)) rfl rfl rfl ?_
    obtain ⟨y4, hy4, h⟩ := bind_some h
    refine Sq.v (r_call en60 (C_value_Left hy4) ⟨look_t rfl, look_t rfl, trivial⟩) rfl rfl rfl ?_
    refine Sq.alloc zr24 rfl fun p3 => ?_
    refine Sq.store (i := 0) (Lens.id T_api_Value) (v := (y4 : T_api_Value)) (b' := (y4 : T_api_Value)) ty24 (look_t rfl) (look_t rfl) rfl rfl rfl ?_
    refine Sq.nil ?_
    refine To.next ?_
    refine Wp.seq ?_
    obtain ⟨k1, hk1, h⟩ := bind_some h
    obtain ⟨y5, hy5, h⟩ := bind_some h
    obtain ⟨k2, hk2, h⟩ := bind_some h
    refine Wp.draw mixed 9 [some 31, some 32, some 33, some 34, some 35, some 36, some 37, some 38, some 39] [[], [], [], [1, 2], [3], [], [4, 5], [], [0, 7]] [.val (VP.of (y2.1)), .val (VP.of (y2.1)), .val (VP.eq (.pointer (some ⟨p1, 0 + 8, none⟩))), .val (VP.eq (.pointer (some ⟨p1, 0 + 8 + k1 * 2, none⟩))), .val (VP.of (vget x0.f_Mask k1)), .val (VP.of (y4)), .val (VP.of (y5)), .val (VP.eq (.pointer (some ⟨p1, 0 + 8, none⟩))), .val (VP.eq (.pointer (some ⟨p1, 0 + 8 + k2 * 2, none⟩)))] [false, false, false, false, false, false, false, false, false] (by kernel_rfl) rfl rfl rfl (fun ps1 => ⟨fun L' hL => HO.v (r_move (look_t rfl)) rfl, fun L' hL => HO.v (r_move (look_t rfl)) rfl, fun L' hL => HO.v (r_fa fd28_1 (look_t rfl)) rfl, fun L' hL => HO.v (r_ia (k := k1) ar26 (look_t rfl) (look_t rfl) (idx_some hk1)) rfl, fun L' hL => HO.v (r_load (i := 2) (((Lens.id T_cube_Cube).comp le_T_cube_Cube_Mask).comp (Lens.idx (α := T_api_Value) 4 k1 (idx_some hk1).1)) (r := vget x0.f_Mask k1) ty24 (look_t rfl) (hL _ _ rfl rfl) rfl rfl) rfl, fun L' hL => HO.v (r_load (i := 0) (Lens.id T_api_Value) (r := y4) ty24 (look_t rfl) (hL _ _ rfl rfl) rfl rfl) rfl, fun L' hL => HO.v (r_call en58 (C_value_Or hy5) ⟨look_t rfl, look_t rfl, trivial⟩) rfl, fun L' hL => HO.v (r_fa fd28_1 (look_t rfl)) rfl, fun L' hL => HO.v (r_ia (k := k2) ar26 (look_t rfl) (look_t rfl) (idx_some hk2)) rfl, trivial⟩) fun ps1 => ?_
    refine Sq.store (i := 2) (((Lens.id T_cube_Cube).comp le_T_cube_Cube_Mask).comp (Lens.idx (α := T_api_Value) 4 k2 (idx_some hk2).1)) (v := (y5 : T_api_Value)) (b' := ({ x0 with f_Mask := vset x0.f_Mask k2 y5 } : T_cube_Cube)) ty24 (look_t rfl) (look_t rfl) rfl rfl rfl ?_
    refine Sq.nil ?_
    refine To.next ?_
    refine Wp.seq ?_
    refine Wp.seq ?_
    refine Wp.reg ?_
    refine Sq.v (r_move (look_t rfl)) rfl rfl rfl ?_
    refine Sq.nil ?_
    refine To.next ?_
    obtain ⟨m1, hm1, h⟩ := bind_some h
    refine Wp.condM (γ := Unit) (fun g1 => [(0, VP.of (x0)), (1, VP.of (x1)), (2, VP.of (x2)), (3, VP.eq (.pointer (some ⟨p1, 0, none⟩))), (6, VP.eq (.pointer (some ⟨p2, 0, none⟩))), (7, VP.of (y2.1)), (8, VP.of (y2.2)), (9, VP.eq (.pointer (some ⟨p3, 0, none⟩))), (21, VP.of (((decide (x1 < 0)) || (decide (x1 ≥ 512))) || y1)), (40, VP.of (x2))]) (fun g1 => [⟨some p3, .var (y4 : T_api_Value)⟩, ⟨some p2, .var ((default : T_cube_Cube) : T_cube_Cube)⟩, ⟨some p1, .var (m1 : T_cube_Cube)⟩]) (look_t rfl) (fun g1 => ?_) (fun hm hc => ?_) (fun hm hc => ?_)
    · clear hm1
      refine To.next ?_
      refine Wp.seq ?_
      refine Wp.reg ?_
      refine Sq.v (r_load (i := 2) (Lens.id T_cube_Cube) (r := m1) ty28 (look_t rfl) rfl rfl rfl) rfl rfl rfl ?_
      refine Sq.store (i := 1) (Lens.id T_cube_Cube) (v := (m1 : T_cube_Cube)) (b' := (m1 : T_cube_Cube)) ty28 (look_t rfl) (look_t rfl) rfl rfl rfl ?_
      refine Sq.nil ?_
      refine To.next ?_
      refine Wp.ret ?_
      replace h := some_in h
      subst h
      exact To.end1 rfl (rv_c (i := 1) ty28 rfl rfl)
    · have h := cond_t hc hm1
      obtain ⟨k3, hk3, h⟩ := bind_some h
      obtain ⟨y6, hy6, h⟩ := bind_some h
      obtain ⟨k4, hk4, h⟩ := bind_some h
      refine Wp.draw mixed 9 [some 41, some 42, some 43, some 44, some 45, some 46, some 47, some 48, some 49] [[], [], [], [1, 2], [3], [], [4, 5], [], [0, 7]] [.val (VP.of (y2.1)), .val (VP.of (y2.1)), .val (VP.eq (.pointer (some ⟨p1, 0 + 0, none⟩))), .val (VP.eq (.pointer (some ⟨p1, 0 + 0 + k3 * 2, none⟩))), .val (VP.of (vget (({ x0 with f_Mask := vset x0.f_Mask k2 y5 }).f_Value) k3)), .val (VP.of (y4)), .val (VP.of (y6)), .val (VP.eq (.pointer (some ⟨p1, 0 + 0, none⟩))), .val (VP.eq (.pointer (some ⟨p1, 0 + 0 + k4 * 2, none⟩)))] [false, false, false, false, false, false, false, false, false] (by kernel_rfl) rfl rfl rfl (fun ps2 => ⟨fun L' hL => HO.v (r_move (look_t rfl)) rfl, fun L' hL => HO.v (r_move (look_t rfl)) rfl, fun L' hL => HO.v (r_fa fd28_0 (look_t rfl)) rfl, fun L' hL => HO.v (r_ia (k := k3) ar26 (look_t rfl) (look_t rfl) (idx_some hk3)) rfl, fun L' hL => HO.v (r_load (i := 2) (((Lens.id T_cube_Cube).comp le_T_cube_Cube_Value).comp (Lens.idx (α := T_api_Value) 4 k3 (idx_some hk3).1)) (r := vget (({ x0 with f_Mask := vset x0.f_Mask k2 y5 }).f_Value) k3) ty24 (look_t rfl) (hL _ _ rfl rfl) rfl rfl) rfl, fun L' hL => HO.v (r_load (i := 0) (Lens.id T_api_Value) (r := y4) ty24 (look_t rfl) (hL _ _ rfl rfl) rfl rfl) rfl, fun L' hL => HO.v (r_call en58 (C_value_Or hy6) ⟨look_t rfl, look_t rfl, trivial⟩) rfl, fun L' hL => HO.v (r_fa fd28_0 (look_t rfl)) rfl, fun L' hL => HO.v (r_ia (k := k4) ar26 (look_t rfl) (look_t rfl) (idx_some hk4)) rfl, trivial⟩) fun ps2 => ?_
      obtain ⟨z1, hz1, h⟩ := bind_some h
      refine Sq.store (i := 2) (((Lens.id T_cube_Cube).comp le_T_cube_Cube_Value).comp (Lens.idx (α := T_api_Value) 4 k4 (idx_some hk4).1)) (v := (y6 : T_api_Value)) (b' := (z1 : T_cube_Cube)) ty24 (look_t rfl) (look_t rfl) rfl rfl (some_in hz1) ?_
      refine Sq.nil ?_
      replace h := some_in h
      subst h
      exact To.meet 0 rfl (.same rfl (.same rfl (.same rfl (.same rfl (.same rfl (.same rfl (.same rfl (.same rfl (.same rfl (.same rfl .nil)))))))))) (hm ())
    · have h := cond_f hc hm1
      refine Wp.skip ?_
      replace h := some_in h
      subst h
      exact To.meet 0 rfl (.same rfl (.same rfl (.same rfl (.same rfl (.same rfl (.same rfl (.same rfl (.same rfl (.same rfl (.same rfl .nil)))))))))) (hm ())
set_option maxHeartbeats 2000000 in
theorem C_cover_near {x0 : T_cube_Cube} {x1 : List T_cube_Cube}  {r : (List T_cube_Cube)} (h : L_cover_near x0 x1 = some r) : Meets Try.prog 67 [VP.of (x0), VP.of (x1)] (VP.of (r)) := by
  unfold L_cover_near at h
  refine Meets.of Try.func67 rfl Try.ntmps67 rfl fun W A => ?_
  refine Wp.seq ?_
  refine Wp.reg ?_
  refine Sq.box (z := (x0 : T_cube_Cube)) (look_t rfl) rfl fun p1 => ?_
  refine Sq.v (r_asg (look_nil (α := T_cube_Cube))) rfl rfl rfl ?_
  refine Sq.nil ?_
  refine To.next ?_
  refine Wp.seq ?_
  refine Wp.reg ?_
  refine Sq.v (r_move (look_t rfl)) rfl rfl rfl ?_
  obtain ⟨y1, hy1, h⟩ := bind_some h
  refine Sq.callO (Lin := []) (Lr := [⟨some p1, .var (x0 : T_cube_Cube)⟩]) en92 (Co_slices_Clone_cube_Cube hy1) ⟨look_t rfl, trivial⟩ rfl fun q1 => ?_
  refine Sq.share (α := T_cube_Cube) 1 2 rfl rfl ?_
  refine Sq.v (r_clo1 (F := (fun a0 => L_cover_near_fn1 a0 x0)) (τs := [VP.ptr x0]) en93 ⟨look_t rfl, trivial⟩ (fun _ _ h => C_cover_near_fn1 h)) rfl rfl rfl ?_
  refine Sq.bring 0 rfl ?_
  obtain ⟨y2, hy2, h⟩ := bind_some h
  refine Sq.callO (Lin := [⟨q1.1, .row 28 (y1 : List T_cube_Cube) q1.2⟩]) (Lr := [⟨none, .dead⟩]) en91 (Cp0_slices_DeleteFunc_cube_Cube hy2) ⟨look_t rfl, look_t rfl, trivial⟩ rfl fun q2 => ?_
  refine Sq.v (r_asg (look_t rfl)) rfl rfl rfl ?_
  refine Sq.nil ?_
  refine To.next ?_
  refine Wp.ret ?_
  replace h := some_in h
  subst h
  exact To.end1 rfl (rv_t rfl)
set_option maxHeartbeats 2000000 in
theorem C_cover_covered_fn1 {x0 : T_cube_Cube} {x1 : T_cube_Cube}  {r : Bool} (h : L_cover_covered_fn1 x0 x1 = some r) : Meets Try.prog 95 [VP.of (x0), VP.ptr x1] (VP.of (r)) := by
  unfold L_cover_covered_fn1 at h
  refine Meets.of Try.func95 rfl Try.ntmps95 rfl fun W A => ?_
  refine Wp.seq ?_
  refine Wp.reg ?_
  refine Sq.box (z := (x0 : T_cube_Cube)) (look_t rfl) rfl fun p1 => ?_
  refine Sq.v (r_asg (look_bool false)) rfl rfl rfl ?_
  refine Sq.nil ?_
  refine To.next ?_
  refine Wp.seq ?_
  refine Wp.reg ?_
  refine Sq.v (r_loadp ty28 (look_t rfl)) rfl rfl rfl ?_
  refine Sq.v (r_load (i := 0) (Lens.id T_cube_Cube) (r := x0) ty28 (look_t rfl) rfl rfl rfl) rfl rfl rfl ?_
  obtain ⟨y1, hy1, h⟩ := bind_some h
  refine Sq.v (r_call en27 (C_cube_Within hy1) ⟨look_t rfl, look_t rfl, trivial⟩) rfl rfl rfl ?_
  refine Sq.v (r_asg (look_t rfl)) rfl rfl rfl ?_
  refine Sq.nil ?_
  refine To.next ?_
  refine Wp.ret ?_
  replace h := some_in h
  subst h
  exact To.end1 rfl (rv_t rfl)
set_option maxHeartbeats 2000000 in
theorem C_cover_wanted {x0 : T_cube_Cube} {x1 : List T_cube_Cube}  {r : (Vector T_api_Value 4) × (Vector T_api_Value 4)} (h : L_cover_wanted x0 x1 = some r) : Meets Try.prog 96 [VP.of (x0), VP.of (x1)] (VP.tup [VP.of (r.1), VP.of (r.2)]) := by
  unfold L_cover_wanted at h
  refine Meets.of Try.func96 rfl Try.ntmps96 rfl fun W A => ?_
  refine Wp.seq ?_
  refine Wp.reg ?_
  refine Sq.box (z := (x0 : T_cube_Cube)) (look_t rfl) rfl fun p1 => ?_
  refine Sq.alloc zr26 rfl fun p2 => ?_
  refine Sq.alloc zr26 rfl fun p3 => ?_
  refine Sq.nil ?_
  refine To.next ?_
  refine Wp.seq ?_
  refine Wp.seq ?_
  refine Wp.reg ?_
  refine Sq.v (r_move (look_t rfl)) rfl rfl rfl ?_
  refine Sq.v (r_len Try.underlying31 (look_t rfl)) rfl rfl rfl ?_
  refine Sq.v (r_move (look_int 0)) rfl rfl rfl ?_
  refine Sq.nil ?_
  refine To.next ?_
  refine Wp.block ?_
  obtain ⟨e1, hl, h⟩ := bind_some h
  refine Wp.loopG (σ := Int × (Vector T_api_Value 4) × (Vector T_api_Value 4)) (ε := (Int × Bool × (Vector T_api_Value 4) × (Vector T_api_Value 4))) (γ := Unit) (δ := Unit) hl (fun s1 g1 => [(0, VP.of (x0)), (1, VP.of (x1)), (2, VP.eq (.pointer (some ⟨p1, 0, none⟩))), (4, VP.eq (.pointer (some ⟨p2, 0, none⟩))), (5, VP.eq (.pointer (some ⟨p3, 0, none⟩))), (11, VP.of (x1)), (12, VP.of (x1.length : Int)), (13, VP.of (s1.1))]) (fun s1 g1 => [⟨some p3, .var (s1.2.1 : Vector T_api_Value 4)⟩, ⟨some p2, .var (s1.2.2 : Vector T_api_Value 4)⟩, ⟨some p1, .var (x0 : T_cube_Cube)⟩]) (fun q1 => Exit.exit 0) (fun q1 g1 => [(0, VP.of (x0)), (1, VP.of (x1)), (2, VP.eq (.pointer (some ⟨p1, 0, none⟩))), (4, VP.eq (.pointer (some ⟨p2, 0, none⟩))), (5, VP.eq (.pointer (some ⟨p3, 0, none⟩))), (11, VP.of (x1)), (12, VP.of (x1.length : Int)), (13, VP.of (q1.1)), (14, VP.of (q1.2.1))]) (fun q1 g1 => [⟨some p3, .var (q1.2.2.1 : Vector T_api_Value 4)⟩, ⟨some p2, .var (q1.2.2.2 : Vector T_api_Value 4)⟩, ⟨some p1, .var (x0 : T_cube_Cube)⟩]) () rfl (.same rfl (.same rfl (.same rfl (.same rfl (.same rfl (.same rfl (.same rfl (.same rfl .nil)))))))) (fun s1 r h g1 => ?_) (fun g1 => ?_)
  · clear hl
    refine Wp.seq ?_
    refine Wp.reg ?_
    refine Sq.v (r_lss (look_t rfl) (look_t rfl)) rfl rfl rfl ?_
    refine Sq.nil ?_
    refine To.next ?_
    refine Wp.seq ?_
    refine Wp.cond (look_t rfl) (fun hc => ?_) (fun hc => ?_)
    · replace h := cond_t hc h
      refine Wp.skip ?_
      refine To.next ?_
      refine Wp.seq ?_
      refine Wp.block ?_
      refine Wp.seq ?_
      refine Wp.reg ?_
      obtain ⟨k1, hk1, h⟩ := bind_some h
      refine Sq.v (r_ias (k := k1) Try.underlying31 ty28 (look_t rfl) (look_t rfl) (idx_some hk1)) rfl rfl rfl ?_
      refine Sq.v (r_loadp ty28 (look_t rfl)) rfl rfl rfl ?_
      refine Sq.alloc zr28 rfl fun p4 => ?_
      refine Sq.store (i := 0) (Lens.id T_cube_Cube) (v := (lget x1 k1 : T_cube_Cube)) (b' := (lget x1 k1 : T_cube_Cube)) ty28 (look_t rfl) (look_t rfl) rfl rfl rfl ?_
      refine Sq.nil ?_
      refine To.next ?_
      refine Wp.seq ?_
      refine Wp.reg ?_
      refine Sq.v (r_fa fd28_1 (look_t rfl)) rfl rfl rfl ?_
      refine Sq.v (r_load (i := 0) ((Lens.id T_cube_Cube).comp le_T_cube_Cube_Mask) (r := (lget x1 k1).f_Mask) ty26 (look_t rfl) rfl rfl rfl) rfl rfl rfl ?_
      refine Sq.v (r_move (look_int 0)) rfl rfl rfl ?_
      refine Sq.nil ?_
      refine To.next ?_
      refine Wp.block ?_
      obtain ⟨e2, hl, h⟩ := bind_some h
      refine Wp.loopG (σ := Int × (Vector T_api_Value 4) × (Vector T_api_Value 4)) (ε := (Int × Bool × (Vector T_api_Value 4) × (Vector T_api_Value 4))) (γ := Unit) (δ := Unit) hl (fun s2 g2 => [(0, VP.of (x0)), (1, VP.of (x1)), (2, VP.eq (.pointer (some ⟨p1, 0, none⟩))), (4, VP.eq (.pointer (some ⟨p2, 0, none⟩))), (5, VP.eq (.pointer (some ⟨p3, 0, none⟩))), (7, VP.eq (.pointer (some ⟨p4, 0, none⟩))), (11, VP.of (x1)), (12, VP.of (x1.length : Int)), (13, VP.of (s1.1)), (14, VP.of (decide (s1.1 < (x1.length : Int)))), (18, VP.of ((lget x1 k1).f_Mask)), (19, VP.of (s2.1))]) (fun s2 g2 => [⟨some p4, .var (lget x1 k1 : T_cube_Cube)⟩, ⟨some p3, .var (s2.2.1 : Vector T_api_Value 4)⟩, ⟨some p2, .var (s2.2.2 : Vector T_api_Value 4)⟩, ⟨some p1, .var (x0 : T_cube_Cube)⟩]) (fun q2 => Exit.exit 2) (fun q2 g2 => [(0, VP.of (x0)), (1, VP.of (x1)), (2, VP.eq (.pointer (some ⟨p1, 0, none⟩))), (4, VP.eq (.pointer (some ⟨p2, 0, none⟩))), (5, VP.eq (.pointer (some ⟨p3, 0, none⟩))), (7, VP.eq (.pointer (some ⟨p4, 0, none⟩))), (11, VP.of (x1)), (12, VP.of (x1.length : Int)), (13, VP.of (s1.1)), (14, VP.of (decide (s1.1 < (x1.length : Int)))), (18, VP.of ((lget x1 k1).f_Mask)), (19, VP.of (q2.1)), (20, VP.of (q2.2.1))]) (fun q2 g2 => [⟨some p4, .var (lget x1 k1 : T_cube_Cube)⟩, ⟨some p3, .var (q2.2.2.1 : Vector T_api_Value 4)⟩, ⟨some p2, .var (q2.2.2.2 : Vector T_api_Value 4)⟩, ⟨some p1, .var (x0 : T_cube_Cube)⟩]) () rfl (.same rfl (.same rfl (.same rfl (.same rfl (.same rfl (.same rfl (.same rfl (.same rfl (.same rfl (.same rfl (.same rfl (.same rfl .nil)))))))))))) (fun s2 r h g2 => ?_) (fun g2 => ?_)
      · clear hl
        refine Wp.seq ?_
        refine Wp.reg ?_
        refine Sq.v (r_lss (look_t rfl) (look_int 4)) rfl rfl rfl ?_
        refine Sq.nil ?_
        refine To.next ?_
        refine Wp.seq ?_
        refine Wp.cond (look_t rfl) (fun hc => ?_) (fun hc => ?_)
        · replace h := cond_t hc h
          refine Wp.skip ?_
          refine To.next ?_
          refine Wp.seq ?_
          refine Wp.block ?_
          refine Wp.seq ?_
          refine Wp.reg ?_
          refine Sq.v (r_move (look_t rfl)) rfl rfl rfl ?_
          obtain ⟨k2, hk2, h⟩ := bind_some h
          refine Sq.v (r_index (k := k2) Try.underlying26 ty24 (look_t rfl) (look_t rfl) (idx_some hk2)) rfl rfl rfl ?_
          refine Sq.alloc zr24 rfl fun p5 => ?_
          refine Sq.v (r_asg (look_t rfl)) rfl rfl rfl ?_
          refine Sq.store (i := 0) (Lens.id T_api_Value) (v := (vget ((lget x1 k1).f_Mask) k2 : T_api_Value)) (b' := (vget ((lget x1 k1).f_Mask) k2 : T_api_Value)) ty24 (look_t rfl) (look_t rfl) rfl rfl rfl ?_
          refine Sq.nil ?_
          refine To.next ?_
          refine Wp.seq ?_
          obtain ⟨k3, hk3, h⟩ := bind_some h
          obtain ⟨y1, hy1, h⟩ := bind_some h
          obtain ⟨y2, hy2, h⟩ := bind_some h
          refine Wp.draw mixed 8 [some 23, some 24, some 25, some 26, some 27, some 28, some 29, some 10] [[], [], [], [1, 2], [3], [4], [0, 5], []] [.val (VP.of (vget ((lget x1 k1).f_Mask) k2)), .val (VP.of (s2.1)), .val (VP.eq (.pointer (some ⟨p1, 0 + 8, none⟩))), .val (VP.eq (.pointer (some ⟨p1, 0 + 8 + k3 * 2, none⟩))), .val (VP.of (vget x0.f_Mask k3)), .val (VP.of (y1)), .val (VP.of (y2)), .new (.var (default : T_api_Value))] [false, false, false, false, false, false, false, false] (by kernel_rfl) rfl rfl rfl (fun ps1 => ⟨fun L' hL => HO.v (r_load (i := 0) (Lens.id T_api_Value) (r := (vget ((lget x1 k1).f_Mask) k2)) ty24 (look_t rfl) (hL _ _ rfl rfl) rfl rfl) rfl, fun L' hL => HO.v (r_move (look_t rfl)) rfl, fun L' hL => HO.v (r_fa fd28_1 (look_t rfl)) rfl, fun L' hL => HO.v (r_ia (k := k3) ar26 (look_t rfl) (look_t rfl) (idx_some hk3)) rfl, fun L' hL => HO.v (r_load (i := 4) (((Lens.id T_cube_Cube).comp le_T_cube_Cube_Mask).comp (Lens.idx (α := T_api_Value) 4 k3 (idx_some hk3).1)) (r := vget x0.f_Mask k3) ty24 (look_t rfl) (hL _ _ rfl rfl) rfl rfl) rfl, fun L' hL => HO.v (r_call en89 (C_value_Not hy1) ⟨look_t rfl, look_int 128, trivial⟩) rfl, fun L' hL => HO.v (r_call en56 (C_value_And hy2) ⟨look_t rfl, look_t rfl, trivial⟩) rfl, ao_alloc zr24, trivial⟩) fun ps1 => ?_
          refine Sq.store (i := 0) (Lens.id T_api_Value) (v := (y2 : T_api_Value)) (b' := (y2 : T_api_Value)) ty24 (look_t rfl) (look_t rfl) rfl rfl rfl ?_
          refine Sq.nil ?_
          refine To.next ?_
          refine Wp.seq ?_
          obtain ⟨k4, hk4, h⟩ := bind_some h
          obtain ⟨k5, hk5, h⟩ := bind_some h
          obtain ⟨y3, hy3, h⟩ := bind_some h
          obtain ⟨y4, hy4, h⟩ := bind_some h
          obtain ⟨k6, hk6, h⟩ := bind_some h
          refine Wp.draw mixed 12 [some 30, some 31, some 32, some 33, some 34, some 35, some 36, some 37, some 38, some 39, some 40, some 41] [[], [], [1], [2], [], [], [], [5, 6], [7], [4, 8], [3, 9], [0]] [.val (VP.of (s2.1)), .val (VP.of (s2.1)), .val (VP.eq (.pointer (some ⟨p3, 0 + k4 * 2, none⟩))), .val (VP.of (vget s2.2.1 k4)), .val (VP.of (y2)), .val (VP.of (s2.1)), .val (VP.eq (.pointer (some ⟨p4, 0 + 0, none⟩))), .val (VP.eq (.pointer (some ⟨p4, 0 + 0 + k5 * 2, none⟩))), .val (VP.of (vget ((lget x1 k1).f_Value) k5)), .val (VP.of (y3)), .val (VP.of (y4)), .val (VP.eq (.pointer (some ⟨p3, 0 + k6 * 2, none⟩)))] [false, false, false, false, false, false, false, false, false, false, false, false] (by kernel_rfl) rfl rfl rfl (fun ps2 => ⟨fun L' hL => HO.v (r_move (look_t rfl)) rfl, fun L' hL => HO.v (r_move (look_t rfl)) rfl, fun L' hL => HO.v (r_ia (k := k4) ar26 (look_t rfl) (look_t rfl) (idx_some hk4)) rfl, fun L' hL => HO.v (r_load (i := 3) ((Lens.id (Vector T_api_Value 4)).comp (Lens.idx (α := T_api_Value) 4 k4 (idx_some hk4).1)) (r := vget s2.2.1 k4) ty24 (look_t rfl) (hL _ _ rfl rfl) rfl rfl) rfl, fun L' hL => HO.v (r_load (i := 0) (Lens.id T_api_Value) (r := y2) ty24 (look_t rfl) (hL _ _ rfl rfl) rfl rfl) rfl, fun L' hL => HO.v (r_move (look_t rfl)) rfl, fun L' hL => HO.v (r_fa fd28_0 (look_t rfl)) rfl, fun L' hL => HO.v (r_ia (k := k5) ar26 (look_t rfl) (look_t rfl) (idx_some hk5)) rfl, fun L' hL => HO.v (r_load (i := 2) (((Lens.id T_cube_Cube).comp le_T_cube_Cube_Value).comp (Lens.idx (α := T_api_Value) 4 k5 (idx_some hk5).1)) (r := vget ((lget x1 k1).f_Value) k5) ty24 (look_t rfl) (hL _ _ rfl rfl) rfl rfl) rfl, fun L' hL => HO.v (r_call en56 (C_value_And hy3) ⟨look_t rfl, look_t rfl, trivial⟩) rfl, fun L' hL => HO.v (r_call en58 (C_value_Or hy4) ⟨look_t rfl, look_t rfl, trivial⟩) rfl, fun L' hL => HO.v (r_ia (k := k6) ar26 (look_t rfl) (look_t rfl) (idx_some hk6)) rfl, trivial⟩) fun ps2 => ?_
          refine Sq.store (i := 3) ((Lens.id (Vector T_api_Value 4)).comp (Lens.idx (α := T_api_Value) 4 k6 (idx_some hk6).1)) (v := (y4 : T_api_Value)) (b' := (vset s2.2.1 k6 y4 : Vector T_api_Value 4)) ty24 (look_t rfl) (look_t rfl) rfl rfl rfl ?_
          refine Sq.nil ?_
          refine To.next ?_
          obtain ⟨k7, hk7, h⟩ := bind_some h
          obtain ⟨k8, hk8, h⟩ := bind_some h
          obtain ⟨y5, hy5, h⟩ := bind_some h
          obtain ⟨y6, hy6, h⟩ := bind_some h
          obtain ⟨y7, hy7, h⟩ := bind_some h
          obtain ⟨k9, hk9, h⟩ := bind_some h
          refine Wp.draw mixed 13 [some 42, some 43, some 44, some 45, some 46, some 47, some 48, some 49, some 50, some 51, some 52, some 53, some 54] [[], [], [1], [2], [], [], [], [5, 6], [7], [8], [4, 9], [3, 10], [0]] [.val (VP.of (s2.1)), .val (VP.of (s2.1)), .val (VP.eq (.pointer (some ⟨p2, 0 + k7 * 2, none⟩))), .val (VP.of (vget s2.2.2 k7)), .val (VP.of (y2)), .val (VP.of (s2.1)), .val (VP.eq (.pointer (some ⟨p4, 0 + 0, none⟩))), .val (VP.eq (.pointer (some ⟨p4, 0 + 0 + k8 * 2, none⟩))), .val (VP.of (vget ((lget x1 k1).f_Value) k8)), .val (VP.of (y5)), .val (VP.of (y6)), .val (VP.of (y7)), .val (VP.eq (.pointer (some ⟨p2, 0 + k9 * 2, none⟩)))] [false, false, false, false, false, false, false, false, false, false, false, false, false] (by kernel_rfl) rfl rfl rfl (fun ps3 => ⟨fun L' hL => HO.v (r_move (look_t rfl)) rfl, fun L' hL => HO.v (r_move (look_t rfl)) rfl, fun L' hL => HO.v (r_ia (k := k7) ar26 (look_t rfl) (look_t rfl) (idx_some hk7)) rfl, fun L' hL => HO.v (r_load (i := 4) ((Lens.id (Vector T_api_Value 4)).comp (Lens.idx (α := T_api_Value) 4 k7 (idx_some hk7).1)) (r := vget s2.2.2 k7) ty24 (look_t rfl) (hL _ _ rfl rfl) rfl rfl) rfl, fun L' hL => HO.v (r_load (i := 0) (Lens.id T_api_Value) (r := y2) ty24 (look_t rfl) (hL _ _ rfl rfl) rfl rfl) rfl, fun L' hL => HO.v (r_move (look_t rfl)) rfl, fun L' hL => HO.v (r_fa fd28_0 (look_t rfl)) rfl, fun L' hL => HO.v (r_ia (k := k8) ar26 (look_t rfl) (look_t rfl) (idx_some hk8)) rfl, fun L' hL => HO.v (r_load (i := 2) (((Lens.id T_cube_Cube).comp le_T_cube_Cube_Value).comp (Lens.idx (α := T_api_Value) 4 k8 (idx_some hk8).1)) (r := vget ((lget x1 k1).f_Value) k8) ty24 (look_t rfl) (hL _ _ rfl rfl) rfl rfl) rfl, fun L' hL => HO.v (r_call en89 (C_value_Not hy5) ⟨look_t rfl, look_int 128, trivial⟩) rfl, fun L' hL => HO.v (r_call en56 (C_value_And hy6) ⟨look_t rfl, look_t rfl, trivial⟩) rfl, fun L' hL => HO.v (r_call en58 (C_value_Or hy7) ⟨look_t rfl, look_t rfl, trivial⟩) rfl, fun L' hL => HO.v (r_ia (k := k9) ar26 (look_t rfl) (look_t rfl) (idx_some hk9)) rfl, trivial⟩) fun ps3 => ?_
          refine Sq.store (i := 4) ((Lens.id (Vector T_api_Value 4)).comp (Lens.idx (α := T_api_Value) 4 k9 (idx_some hk9).1)) (v := (y7 : T_api_Value)) (b' := (vset s2.2.2 k9 y7 : Vector T_api_Value 4)) ty24 (look_t rfl) (look_t rfl) rfl rfl rfl ?_
          refine Sq.nil ?_
          refine To.bnorm ?_
          refine To.next ?_
          refine Wp.reg ?_
          refine Sq.v (r_add (look_t rfl) (look_int 1)) rfl rfl rfl ?_
          refine Sq.v (r_move (look_t rfl)) rfl rfl rfl ?_
          refine Sq.nil ?_
          replace h := some_in h
          subst h
          exact To.roundG () 2 rfl (.same rfl (.same rfl (.same rfl (.same rfl (.same rfl (.same rfl (.same rfl (.same rfl (.same rfl (.same rfl (.same rfl (.same rfl .nil))))))))))))
        · replace h := cond_f hc h
          refine Wp.exit ?_
          refine To.exit ?_
          replace h := some_in h
          subst h
          exact To.leaveG () 0 rfl (by simp) rfl (.same rfl (.same rfl (.same rfl (.same rfl (.same rfl (.same rfl (.same rfl (.same rfl (.same rfl (.same rfl (.same rfl (.same rfl (.same rfl .nil)))))))))))))
      · clear hl
        refine To.bexit ?_
        refine To.bnorm ?_
        refine To.next ?_
        refine Wp.reg ?_
        refine Sq.v (r_add (look_t rfl) (look_int 1)) rfl rfl rfl ?_
        refine Sq.v (r_move (look_t rfl)) rfl rfl rfl ?_
        refine Sq.nil ?_
        replace h := some_in h
        subst h
        exact To.roundG () 1 rfl (.same rfl (.same rfl (.same rfl (.same rfl (.same rfl (.same rfl (.same rfl (.same rfl .nil))))))))
    · replace h := cond_f hc h
      refine Wp.exit ?_
      refine To.exit ?_
      replace h := some_in h
      subst h
      exact To.leaveG () 0 rfl (by simp) rfl (.same rfl (.same rfl (.same rfl (.same rfl (.same rfl (.same rfl (.same rfl (.same rfl (.same rfl .nil)))))))))
  · clear hl
    refine To.bexit ?_
    refine To.next ?_
    refine Wp.seq ?_
    refine Wp.draw mixed 3 [some 57, some 58, none] [[], [], [0]] [.val (VP.of (e1.2.2.2)), .val (VP.of (e1.2.2.1)), .sto 1 (.var (e1.2.2.2 : Vector T_api_Value 4))] [false, false, true] (by kernel_rfl) rfl rfl rfl (fun ps4 => ⟨fun L' hL => HO.v (r_load (i := 1) (Lens.id (Vector T_api_Value 4)) (r := e1.2.2.2) ty26 (look_t rfl) (hL _ _ rfl (by kernel_rfl)) rfl rfl) rfl, fun L' hL => HO.v (r_load (i := 0) (Lens.id (Vector T_api_Value 4)) (r := e1.2.2.1) ty26 (look_t rfl) (hL _ _ rfl (by kernel_rfl)) rfl rfl) rfl, ⟨_, _, rfl, fun L' hL => so_var (i := 1) (Lens.id (Vector T_api_Value 4)) (v := (e1.2.2.2 : Vector T_api_Value 4)) (b' := (e1.2.2.2 : Vector T_api_Value 4)) ty26 (look_t rfl) (look_t rfl) (hL _ _ rfl) rfl rfl⟩, trivial⟩) fun ps4 => ?_
    refine Sq.store (i := 0) (Lens.id (Vector T_api_Value 4)) (v := (e1.2.2.1 : Vector T_api_Value 4)) (b' := (e1.2.2.1 : Vector T_api_Value 4)) ty26 (look_t rfl) (look_t rfl) rfl rfl rfl ?_
    refine Sq.nil ?_
    refine To.next ?_
    refine Wp.ret ?_
    replace h := some_in h
    subst h
    exact To.end2 rfl (rv_c (i := 1) ty26 rfl rfl) (rv_c (i := 0) ty26 rfl rfl)
end Go.Proofs.Ytabodolbdalimaa
