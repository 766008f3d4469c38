/-
  Printed by the decompiler (dec.py) out of the seat's translation. Each function meets its functional program. Conditions: none.
-/
import Derived.Test.YtodajdohokmjnaaDc1
import Derived.Test.YtodajdohokmjnaaDc3
import Derived.Test.YtodajdohokmjnaaDc4
import Derived.Test.YtodajdohokmjnaaDc6
namespace Go.Proofs.Ytodajdohokmjnaa
open Go Gv
set_option linter.unusedVariables false
set_option linter.unusedSimpArgs false
set_option maxRecDepth 100000
set_option maxHeartbeats 2000000 in
theorem Cp0_slices_DeleteFunc_session_Top {x0 : List T_session_Top} {x1 : T_session_Top → Option Bool} {key00 : Option Nat} {cap00 : Nat} {r : (List T_session_Top)} (h : Lp0_slices_DeleteFunc_session_Top x0 x1 = some r) : MeetsO Try.prog 105 [VP.eq (slv key00 x0.length cap00), VP.fn1 Try.prog x1] [⟨key00, .row 67 (x0 : List T_session_Top) cap00⟩] (δ := Unit) (fun d => VP.of (r)) (fun d => []) := by
  unfold Lp0_slices_DeleteFunc_session_Top at h
  refine MeetsO.of Try.func105 rfl Try.ntmps105 rfl fun W A => ?_
  refine Wp.seq ?_
  refine Wp.reg ?_
  refine Sq.v (r_asg (look_nil (α := T_session_Top))) rfl rfl rfl ?_
  refine Sq.nil ?_
  refine To.next ?_
  refine Wp.seq ?_
  refine Wp.reg ?_
  refine Sq.v (r_move (look_t rfl)) rfl rfl rfl ?_
  refine Sq.v (r_move (look_t rfl)) rfl rfl rfl ?_
  obtain ⟨y1, hy1, h⟩ := bind_some h
  refine Sq.v (HR.lend (α := T_session_Top) 0 8 rfl rfl flat_int (r_call en100 (C_slices_IndexFunc_session_Top hy1) ⟨look_t rfl, look_t rfl, trivial⟩)) rfl rfl rfl ?_
  refine Sq.v (r_asg (look_t rfl)) rfl rfl rfl ?_
  refine Sq.nil ?_
  refine To.next ?_
  refine Wp.seq ?_
  refine Wp.seq ?_
  refine Wp.reg ?_
  refine Sq.v (r_move (look_t rfl)) rfl rfl rfl ?_
  refine Sq.v (r_eql (look_t rfl) (look_int (-1))) rfl rfl rfl ?_
  refine Sq.nil ?_
  refine To.next ?_
  refine Wp.cond (look_t rfl) (fun hc => ?_) (fun hc => ?_)
  · replace h := cond_t hc h
    refine Wp.seq ?_
    refine Wp.reg ?_
    refine Sq.v (r_move (look_t rfl)) rfl rfl rfl ?_
    refine Sq.v (r_asg (look_t rfl)) rfl rfl rfl ?_
    refine Sq.nil ?_
    refine To.next ?_
    refine Wp.ret ?_
    refine To.ret ?_
    refine To.freezeL (α := T_session_Top) 0 [4, 0, 8, 13] ⟨rfl, rfl, rfl, rfl, trivial⟩ rfl ?_
    replace h := some_in h
    subst h
    exact To.endO1 () (List.nil_sublist _) rfl rfl (rvo_t rfl)
  · replace h := cond_f hc h
    refine Wp.skip ?_
    refine To.next ?_
    refine Wp.seq ?_
    refine Wp.seq ?_
    refine Wp.reg ?_
    refine Sq.v (r_move (look_t rfl)) rfl rfl rfl ?_
    refine Sq.v (r_add (look_t rfl) (look_int 1)) rfl rfl rfl ?_
    refine Sq.v (r_asg (look_t rfl)) rfl rfl rfl ?_
    refine Sq.nil ?_
    refine To.next ?_
    refine Wp.block ?_
    obtain ⟨e1, hl, h⟩ := bind_some h
    refine Wp.loopG (σ := Int × Int × (List T_session_Top)) (ε := (Int × Int × Bool × (List T_session_Top))) (γ := (Option Nat × Nat)) (δ := (Option Nat × Nat)) hl (fun s1 g1 => [(0, VP.eq (slv g1.1 s1.2.2.length g1.2)), (1, VP.fn1 Try.prog x1), (4, VP.of ([] : List T_session_Top)), (5, VP.of (s1.1)), (6, VP.of (s1.2.1)), (12, VP.of (y1 == (-1)))]) (fun s1 g1 => [⟨g1.1, .row 67 (s1.2.2 : List T_session_Top) g1.2⟩]) (fun q1 => Exit.exit 0) (fun q1 g1 => [(0, VP.eq (slv g1.1 q1.2.2.2.length g1.2)), (1, VP.fn1 Try.prog x1), (4, VP.of ([] : List T_session_Top)), (5, VP.of (q1.1)), (6, VP.of (q1.2.1)), (12, VP.of (y1 == (-1))), (19, VP.of (q1.2.2.1))]) (fun q1 g1 => [⟨g1.1, .row 67 (q1.2.2.2 : List T_session_Top) g1.2⟩]) (key00, cap00) rfl (.same rfl (.same rfl (.same rfl (.same rfl (.same rfl (.same rfl .nil)))))) (fun s1 r h g1 => ?_) (fun g1 => ?_)
    · clear hl
      refine Wp.seq ?_
      refine Wp.seq ?_
      refine Wp.reg ?_
      refine Sq.v (r_move (look_t rfl)) rfl rfl rfl ?_
      refine Sq.v (r_move (look_t rfl)) rfl rfl rfl ?_
      refine Sq.v (r_lenO (i := 0) Try.underlying38 (look_t rfl) rfl rfl) rfl rfl rfl ?_
      refine Sq.v (r_lss (look_t rfl) (look_t rfl)) rfl rfl rfl ?_
      refine Sq.nil ?_
      refine To.next ?_
      refine Wp.cond (look_t rfl) (fun hc => ?_) (fun hc => ?_)
      · replace h := cond_t hc h
        refine Wp.skip ?_
        refine To.next ?_
        refine Wp.seq ?_
        refine Wp.block ?_
        refine Wp.seq ?_
        refine Wp.reg ?_
        refine Sq.v (r_move (look_t rfl)) rfl rfl rfl ?_
        refine Sq.v (r_move (look_t rfl)) rfl rfl rfl ?_
        obtain ⟨k1, hk1, h⟩ := bind_some h
        refine Sq.v (r_iaO (i := 0) (k := k1) (xs := (s1.2.2 : List T_session_Top)) Try.underlying38 ty67 (look_t rfl) (look_t rfl) rfl (idx_some hk1)) rfl rfl rfl ?_
        refine Sq.v (r_loadR (i := 0) (k := k1) (Lens.id T_session_Top) (r := (lget s1.2.2 k1)) ty67 (look_t rfl) rfl (idx_some hk1).1 rfl rfl) rfl rfl rfl ?_
        refine Sq.alloc zr67 rfl fun p1 => ?_
        refine Sq.store (i := 0) (Lens.id T_session_Top) (v := ((lget s1.2.2 k1) : T_session_Top)) (b' := ((lget s1.2.2 k1) : T_session_Top)) ty67 (look_t rfl) (look_t rfl) rfl rfl rfl ?_
        refine Sq.nil ?_
        refine To.next ?_
        refine Wp.seq ?_
        refine Wp.reg ?_
        refine Sq.v (r_move (look_t rfl)) rfl rfl rfl ?_
        refine Sq.v (r_load (i := 0) (Lens.id T_session_Top) (r := (lget s1.2.2 k1)) ty67 (look_t rfl) rfl rfl rfl) rfl rfl rfl ?_
        obtain ⟨y2, hy2, h⟩ := bind_some h
        refine Sq.v (r_callF1 (look_t rfl) (look_t rfl) hy2) rfl rfl rfl ?_
        refine Sq.v (r_not (look_t rfl)) rfl rfl rfl ?_
        refine Sq.nil ?_
        refine To.next ?_
        obtain ⟨m1, hm1, h⟩ := bind_some h
        refine Wp.condM (γ := (Option Nat × Nat)) (fun g2 => [(0, VP.eq (slv g2.1 m1.2.length g2.2)), (1, VP.fn1 Try.prog x1), (4, VP.of ([] : List T_session_Top)), (5, VP.of (m1.1)), (6, VP.of (s1.2.1)), (7, VP.eq (.pointer (some ⟨p1, 0, none⟩))), (12, VP.of (y1 == (-1))), (19, VP.of (decide (s1.2.1 < (s1.2.2.length : Int)))), (29, VP.of (!y2))]) (fun g2 => [⟨some p1, .var ((lget s1.2.2 k1) : T_session_Top)⟩, ⟨g2.1, .row 67 (m1.2 : List T_session_Top) g2.2⟩]) (look_t rfl) (fun g2 => ?_) (fun hm hc => ?_) (fun hm hc => ?_)
        · clear hm1
          refine To.bnorm ?_
          refine To.next ?_
          refine Wp.reg ?_
          refine Sq.v (r_move (look_t rfl)) rfl rfl rfl ?_
          refine Sq.v (r_add (look_t rfl) (look_int 1)) rfl rfl rfl ?_
          refine Sq.v (r_asg (look_t rfl)) rfl rfl rfl ?_
          refine Sq.nil ?_
          replace h := some_in h
          subst h
          exact To.roundG (g2.1, g2.2) 1 rfl (.same rfl (.same rfl (.same rfl (.same rfl (.same rfl (.same rfl .nil))))))
        · have h := cond_t hc hm1
          refine Wp.seq ?_
          refine Wp.reg ?_
          refine Sq.v (r_move (look_t rfl)) rfl rfl rfl ?_
          refine Sq.v (r_move (look_t rfl)) rfl rfl rfl ?_
          refine Sq.v (r_load (i := 0) (Lens.id T_session_Top) (r := (lget s1.2.2 k1)) ty67 (look_t rfl) rfl rfl rfl) rfl rfl rfl ?_
          obtain ⟨k2, hk2, h⟩ := bind_some h
          refine Sq.v (r_iaO (i := 1) (k := k2) (xs := (s1.2.2 : List T_session_Top)) Try.underlying38 ty67 (look_t rfl) (look_t rfl) rfl (idx_some hk2)) rfl rfl rfl ?_
          refine Sq.storeR (i := 1) (k := k2) (Lens.id T_session_Top) (v := ((lget s1.2.2 k1) : T_session_Top)) (r := (lset s1.2.2 k2 (lget s1.2.2 k1) : List T_session_Top)) ty67 (look_t rfl) (look_t rfl) rfl (idx_some hk2).1 rfl rfl ?_
          refine Sq.relen (m := (lset s1.2.2 k2 (lget s1.2.2 k1)).length) 0 rfl (lset_len rfl) ?_
          refine Sq.relen (m := (lset s1.2.2 k2 (lget s1.2.2 k1)).length) 17 rfl (lset_len rfl) ?_
          refine Sq.relen (m := (lset s1.2.2 k2 (lget s1.2.2 k1)).length) 22 rfl (lset_len rfl) ?_
          refine Sq.relen (m := (lset s1.2.2 k2 (lget s1.2.2 k1)).length) 30 rfl (lset_len rfl) ?_
          refine Sq.nil ?_
          refine To.next ?_
          refine Wp.reg ?_
          refine Sq.v (r_move (look_t rfl)) rfl rfl rfl ?_
          refine Sq.v (r_add (look_t rfl) (look_int 1)) rfl rfl rfl ?_
          refine Sq.v (r_asg (look_t rfl)) rfl rfl rfl ?_
          refine Sq.nil ?_
          replace h := some_in h
          subst h
          exact To.meet 0 rfl (.same rfl (.same rfl (.same rfl (.same rfl (.same rfl (.same rfl (.same rfl (.same rfl (.same rfl .nil))))))))) (hm (g1.1, g1.2))
        · have h := cond_f hc hm1
          refine Wp.skip ?_
          replace h := some_in h
          subst h
          exact To.meet 0 rfl (.same rfl (.same rfl (.same rfl (.same rfl (.same rfl (.same rfl (.same rfl (.same rfl (.same rfl .nil))))))))) (hm (g1.1, g1.2))
      · replace h := cond_f hc h
        refine Wp.exit ?_
        refine To.exit ?_
        replace h := some_in h
        subst h
        exact To.leaveG (g1.1, g1.2) 0 rfl (by simp) rfl (.same rfl (.same rfl (.same rfl (.same rfl (.same rfl (.same rfl (.same rfl .nil)))))))
    · clear hl
      refine To.bexit ?_
      refine To.next ?_
      refine Wp.seq ?_
      refine Wp.reg ?_
      refine Sq.v (r_move (look_t rfl)) rfl rfl rfl ?_
      refine Sq.v (r_move (look_t rfl)) rfl rfl rfl ?_
      obtain ⟨y3, hy3, h⟩ := bind_some h
      refine Sq.v (r_sliceO (i := 0) (xs := (e1.2.2.2 : List T_session_Top)) (m := y3.1) (n := y3.2) Try.underlying38 ty67 (look_t rfl) rfl (.some (look_t rfl)) .none (cutM_some hy3).1 (cutM_some hy3).2.1 (cutM_some hy3).2.2) rfl rfl rfl ?_
      obtain ⟨z1, hz1, h⟩ := bind_some h
      refine Sq.clear (i := 0) (r := z1) Try.underlying38 ty67 zr67 rfl (look_t rfl) rfl (by have := (cutM_some hy3).2.2; omega) (some_in hz1) ?_
      refine Sq.relen (m := z1.length) 0 rfl (lclear_len (by have := (cutM_some hy3).2.2; omega) (some_in hz1)) ?_
      refine Sq.relen (m := z1.length) 36 rfl (lclear_len (by have := (cutM_some hy3).2.2; omega) (some_in hz1)) ?_
      refine Sq.nil ?_
      refine To.next ?_
      refine Wp.seq ?_
      refine Wp.reg ?_
      refine Sq.v (r_move (look_t rfl)) rfl rfl rfl ?_
      refine Sq.v (r_move (look_t rfl)) rfl rfl rfl ?_
      obtain ⟨k3, hk3, h⟩ := bind_some h
      refine Sq.v (r_sliceO (i := 0) (xs := (z1 : List T_session_Top)) (m := 0) (n := k3) Try.underlying38 ty67 (look_t rfl) rfl .none (.some (look_t rfl)) rfl (idx_some hk3).2 ⟨Nat.zero_le _, Nat.le_of_lt_succ (idx_some hk3).1⟩) rfl rfl rfl ?_
      obtain ⟨z2, hz2, h⟩ := bind_some h
      refine Sq.trunc (i := 0) (n := k3) (xs := (z1 : List T_session_Top)) (r := z2) 41 rfl rfl (Nat.le_of_lt_succ (idx_some hk3).1) (some_in hz2) ?_
      refine Sq.v (r_asg (look_t rfl)) rfl rfl rfl ?_
      refine Sq.nil ?_
      refine To.next ?_
      refine Wp.ret ?_
      refine To.freezeL (α := T_session_Top) 0 [4, 41] ⟨rfl, rfl, trivial⟩ rfl ?_
      replace h := some_in h
      subst h
      exact To.endO1 () (List.nil_sublist _) rfl rfl (rvo_t rfl)
set_option maxHeartbeats 2000000 in
theorem Cop0_slices_DeleteFunc_session_Top {x0 : List T_session_Top} {x1 : T_session_Top → Option Bool} {key00 : Option Nat} {cap00 : Nat} {r : (List T_session_Top)} (h : Lp0_slices_DeleteFunc_session_Top x0 x1 = some r) : MeetsO Try.prog 105 [VP.eq (slv key00 x0.length cap00), VP.fn1 Try.prog x1] [⟨key00, .row 67 (x0 : List T_session_Top) cap00⟩] (δ := (Option Nat × Nat)) (fun d => VP.eq (slv d.1 (r).length d.2)) (fun d => [⟨d.1, .row 67 (r : List T_session_Top) d.2⟩]) := by
  unfold Lp0_slices_DeleteFunc_session_Top at h
  refine MeetsO.of Try.func105 rfl Try.ntmps105 rfl fun W A => ?_
  refine Wp.seq ?_
  refine Wp.reg ?_
  refine Sq.own (α := T_session_Top) 67 ?_
  refine Sq.v (r_asg look_own) rfl rfl rfl ?_
  refine Sq.nil ?_
  refine To.next ?_
  refine Wp.seq ?_
  refine Wp.reg ?_
  refine Sq.v (r_move (look_t rfl)) rfl rfl rfl ?_
  refine Sq.v (r_move (look_t rfl)) rfl rfl rfl ?_
  obtain ⟨y1, hy1, h⟩ := bind_some h
  refine Sq.v (HR.lend (α := T_session_Top) 1 8 rfl rfl flat_int (r_call en100 (C_slices_IndexFunc_session_Top hy1) ⟨look_t rfl, look_t rfl, trivial⟩)) rfl rfl rfl ?_
  refine Sq.v (r_asg (look_t rfl)) rfl rfl rfl ?_
  refine Sq.nil ?_
  refine To.next ?_
  refine Wp.seq ?_
  refine Wp.seq ?_
  refine Wp.reg ?_
  refine Sq.v (r_move (look_t rfl)) rfl rfl rfl ?_
  refine Sq.v (r_eql (look_t rfl) (look_int (-1))) rfl rfl rfl ?_
  refine Sq.nil ?_
  refine To.next ?_
  refine Wp.cond (look_t rfl) (fun hc => ?_) (fun hc => ?_)
  · replace h := cond_t hc h
    refine Wp.seq ?_
    refine Wp.reg ?_
    refine Sq.v (r_move (look_t rfl)) rfl rfl rfl ?_
    refine Sq.v (r_asg (look_t rfl)) rfl rfl rfl ?_
    refine Sq.nil ?_
    refine To.next ?_
    refine Wp.ret ?_
    refine To.ret ?_
    refine To.bring 1 rfl ?_
    replace h := some_in h
    subst h
    exact To.endO1 (key00, cap00) (.cons_cons _ (List.nil_sublist _)) rfl rfl (rvo_t rfl)
  · replace h := cond_f hc h
    refine Wp.skip ?_
    refine To.next ?_
    refine Wp.seq ?_
    refine Wp.seq ?_
    refine Wp.reg ?_
    refine Sq.v (r_move (look_t rfl)) rfl rfl rfl ?_
    refine Sq.v (r_add (look_t rfl) (look_int 1)) rfl rfl rfl ?_
    refine Sq.v (r_asg (look_t rfl)) rfl rfl rfl ?_
    refine Sq.nil ?_
    refine To.next ?_
    refine Wp.block ?_
    obtain ⟨e1, hl, h⟩ := bind_some h
    refine Wp.loopG (σ := Int × Int × (List T_session_Top)) (ε := (Int × Int × Bool × (List T_session_Top))) (γ := (Option Nat × Nat)) (δ := (Option Nat × Nat)) hl (fun s1 g1 => [(0, VP.eq (slv g1.1 s1.2.2.length g1.2)), (1, VP.fn1 Try.prog x1), (4, VP.eq (slv none ([] : List T_session_Top).length 0)), (5, VP.of (s1.1)), (6, VP.of (s1.2.1)), (12, VP.of (y1 == (-1)))]) (fun s1 g1 => [⟨none, .row 67 (([] : List T_session_Top) : List T_session_Top) 0⟩, ⟨g1.1, .row 67 (s1.2.2 : List T_session_Top) g1.2⟩]) (fun q1 => Exit.exit 0) (fun q1 g1 => [(0, VP.eq (slv g1.1 q1.2.2.2.length g1.2)), (1, VP.fn1 Try.prog x1), (4, VP.eq (slv none ([] : List T_session_Top).length 0)), (5, VP.of (q1.1)), (6, VP.of (q1.2.1)), (12, VP.of (y1 == (-1))), (19, VP.of (q1.2.2.1))]) (fun q1 g1 => [⟨none, .row 67 (([] : List T_session_Top) : List T_session_Top) 0⟩, ⟨g1.1, .row 67 (q1.2.2.2 : List T_session_Top) g1.2⟩]) (key00, cap00) rfl (.same rfl (.same rfl (.same rfl (.same rfl (.same rfl (.same rfl .nil)))))) (fun s1 r h g1 => ?_) (fun g1 => ?_)
    · clear hl
      refine Wp.seq ?_
      refine Wp.seq ?_
      refine Wp.reg ?_
      refine Sq.v (r_move (look_t rfl)) rfl rfl rfl ?_
      refine Sq.v (r_move (look_t rfl)) rfl rfl rfl ?_
      refine Sq.v (r_lenO (i := 1) Try.underlying38 (look_t rfl) rfl rfl) rfl rfl rfl ?_
      refine Sq.v (r_lss (look_t rfl) (look_t rfl)) rfl rfl rfl ?_
      refine Sq.nil ?_
      refine To.next ?_
      refine Wp.cond (look_t rfl) (fun hc => ?_) (fun hc => ?_)
      · replace h := cond_t hc h
        refine Wp.skip ?_
        refine To.next ?_
        refine Wp.seq ?_
        refine Wp.block ?_
        refine Wp.seq ?_
        refine Wp.reg ?_
        refine Sq.v (r_move (look_t rfl)) rfl rfl rfl ?_
        refine Sq.v (r_move (look_t rfl)) rfl rfl rfl ?_
        obtain ⟨k1, hk1, h⟩ := bind_some h
        refine Sq.v (r_iaO (i := 1) (k := k1) (xs := (s1.2.2 : List T_session_Top)) Try.underlying38 ty67 (look_t rfl) (look_t rfl) rfl (idx_some hk1)) rfl rfl rfl ?_
        refine Sq.v (r_loadR (i := 1) (k := k1) (Lens.id T_session_Top) (r := (lget s1.2.2 k1)) ty67 (look_t rfl) rfl (idx_some hk1).1 rfl rfl) rfl rfl rfl ?_
        refine Sq.alloc zr67 rfl fun p1 => ?_
        refine Sq.store (i := 0) (Lens.id T_session_Top) (v := ((lget s1.2.2 k1) : T_session_Top)) (b' := ((lget s1.2.2 k1) : T_session_Top)) ty67 (look_t rfl) (look_t rfl) rfl rfl rfl ?_
        refine Sq.nil ?_
        refine To.next ?_
        refine Wp.seq ?_
        refine Wp.reg ?_
        refine Sq.v (r_move (look_t rfl)) rfl rfl rfl ?_
        refine Sq.v (r_load (i := 0) (Lens.id T_session_Top) (r := (lget s1.2.2 k1)) ty67 (look_t rfl) rfl rfl rfl) rfl rfl rfl ?_
        obtain ⟨y2, hy2, h⟩ := bind_some h
        refine Sq.v (r_callF1 (look_t rfl) (look_t rfl) hy2) rfl rfl rfl ?_
        refine Sq.v (r_not (look_t rfl)) rfl rfl rfl ?_
        refine Sq.nil ?_
        refine To.next ?_
        obtain ⟨m1, hm1, h⟩ := bind_some h
        refine Wp.condM (γ := (Option Nat × Nat)) (fun g2 => [(0, VP.eq (slv g2.1 m1.2.length g2.2)), (1, VP.fn1 Try.prog x1), (4, VP.eq (slv none ([] : List T_session_Top).length 0)), (5, VP.of (m1.1)), (6, VP.of (s1.2.1)), (7, VP.eq (.pointer (some ⟨p1, 0, none⟩))), (12, VP.of (y1 == (-1))), (19, VP.of (decide (s1.2.1 < (s1.2.2.length : Int)))), (29, VP.of (!y2))]) (fun g2 => [⟨some p1, .var ((lget s1.2.2 k1) : T_session_Top)⟩, ⟨none, .row 67 (([] : List T_session_Top) : List T_session_Top) 0⟩, ⟨g2.1, .row 67 (m1.2 : List T_session_Top) g2.2⟩]) (look_t rfl) (fun g2 => ?_) (fun hm hc => ?_) (fun hm hc => ?_)
        · clear hm1
          refine To.bnorm ?_
          refine To.next ?_
          refine Wp.reg ?_
          refine Sq.v (r_move (look_t rfl)) rfl rfl rfl ?_
          refine Sq.v (r_add (look_t rfl) (look_int 1)) rfl rfl rfl ?_
          refine Sq.v (r_asg (look_t rfl)) rfl rfl rfl ?_
          refine Sq.nil ?_
          replace h := some_in h
          subst h
          exact To.roundG (g2.1, g2.2) 1 rfl (.same rfl (.same rfl (.same rfl (.same rfl (.same rfl (.same rfl .nil))))))
        · have h := cond_t hc hm1
          refine Wp.seq ?_
          refine Wp.reg ?_
          refine Sq.v (r_move (look_t rfl)) rfl rfl rfl ?_
          refine Sq.v (r_move (look_t rfl)) rfl rfl rfl ?_
          refine Sq.v (r_load (i := 0) (Lens.id T_session_Top) (r := (lget s1.2.2 k1)) ty67 (look_t rfl) rfl rfl rfl) rfl rfl rfl ?_
          obtain ⟨k2, hk2, h⟩ := bind_some h
          refine Sq.v (r_iaO (i := 2) (k := k2) (xs := (s1.2.2 : List T_session_Top)) Try.underlying38 ty67 (look_t rfl) (look_t rfl) rfl (idx_some hk2)) rfl rfl rfl ?_
          refine Sq.storeR (i := 2) (k := k2) (Lens.id T_session_Top) (v := ((lget s1.2.2 k1) : T_session_Top)) (r := (lset s1.2.2 k2 (lget s1.2.2 k1) : List T_session_Top)) ty67 (look_t rfl) (look_t rfl) rfl (idx_some hk2).1 rfl rfl ?_
          refine Sq.relen (m := (lset s1.2.2 k2 (lget s1.2.2 k1)).length) 0 rfl (lset_len rfl) ?_
          refine Sq.relen (m := (lset s1.2.2 k2 (lget s1.2.2 k1)).length) 17 rfl (lset_len rfl) ?_
          refine Sq.relen (m := (lset s1.2.2 k2 (lget s1.2.2 k1)).length) 22 rfl (lset_len rfl) ?_
          refine Sq.relen (m := (lset s1.2.2 k2 (lget s1.2.2 k1)).length) 30 rfl (lset_len rfl) ?_
          refine Sq.nil ?_
          refine To.next ?_
          refine Wp.reg ?_
          refine Sq.v (r_move (look_t rfl)) rfl rfl rfl ?_
          refine Sq.v (r_add (look_t rfl) (look_int 1)) rfl rfl rfl ?_
          refine Sq.v (r_asg (look_t rfl)) rfl rfl rfl ?_
          refine Sq.nil ?_
          replace h := some_in h
          subst h
          exact To.meet 0 rfl (.same rfl (.same rfl (.same rfl (.same rfl (.same rfl (.same rfl (.same rfl (.same rfl (.same rfl .nil))))))))) (hm (g1.1, g1.2))
        · have h := cond_f hc hm1
          refine Wp.skip ?_
          replace h := some_in h
          subst h
          exact To.meet 0 rfl (.same rfl (.same rfl (.same rfl (.same rfl (.same rfl (.same rfl (.same rfl (.same rfl (.same rfl .nil))))))))) (hm (g1.1, g1.2))
      · replace h := cond_f hc h
        refine Wp.exit ?_
        refine To.exit ?_
        replace h := some_in h
        subst h
        exact To.leaveG (g1.1, g1.2) 0 rfl (by simp) rfl (.same rfl (.same rfl (.same rfl (.same rfl (.same rfl (.same rfl (.same rfl .nil)))))))
    · clear hl
      refine To.bexit ?_
      refine To.next ?_
      refine Wp.seq ?_
      refine Wp.reg ?_
      refine Sq.v (r_move (look_t rfl)) rfl rfl rfl ?_
      refine Sq.v (r_move (look_t rfl)) rfl rfl rfl ?_
      obtain ⟨y3, hy3, h⟩ := bind_some h
      refine Sq.v (r_sliceO (i := 1) (xs := (e1.2.2.2 : List T_session_Top)) (m := y3.1) (n := y3.2) Try.underlying38 ty67 (look_t rfl) rfl (.some (look_t rfl)) .none (cutM_some hy3).1 (cutM_some hy3).2.1 (cutM_some hy3).2.2) rfl rfl rfl ?_
      obtain ⟨z1, hz1, h⟩ := bind_some h
      refine Sq.clear (i := 1) (r := z1) Try.underlying38 ty67 zr67 rfl (look_t rfl) rfl (by have := (cutM_some hy3).2.2; omega) (some_in hz1) ?_
      refine Sq.relen (m := z1.length) 0 rfl (lclear_len (by have := (cutM_some hy3).2.2; omega) (some_in hz1)) ?_
      refine Sq.relen (m := z1.length) 36 rfl (lclear_len (by have := (cutM_some hy3).2.2; omega) (some_in hz1)) ?_
      refine Sq.nil ?_
      refine To.next ?_
      refine Wp.seq ?_
      refine Wp.reg ?_
      refine Sq.v (r_move (look_t rfl)) rfl rfl rfl ?_
      refine Sq.v (r_move (look_t rfl)) rfl rfl rfl ?_
      obtain ⟨k3, hk3, h⟩ := bind_some h
      refine Sq.v (r_sliceO (i := 1) (xs := (z1 : List T_session_Top)) (m := 0) (n := k3) Try.underlying38 ty67 (look_t rfl) rfl .none (.some (look_t rfl)) rfl (idx_some hk3).2 ⟨Nat.zero_le _, Nat.le_of_lt_succ (idx_some hk3).1⟩) rfl rfl rfl ?_
      obtain ⟨z2, hz2, h⟩ := bind_some h
      refine Sq.trunc (i := 1) (n := k3) (xs := (z1 : List T_session_Top)) (r := z2) 41 rfl rfl (Nat.le_of_lt_succ (idx_some hk3).1) (some_in hz2) ?_
      refine Sq.v (r_asg (look_t rfl)) rfl rfl rfl ?_
      refine Sq.nil ?_
      refine To.next ?_
      refine Wp.ret ?_
      refine To.bring 1 rfl ?_
      replace h := some_in h
      subst h
      exact To.endO1 (g1.1, g1.2) (.cons_cons _ (List.nil_sublist _)) rfl rfl (rvo_t rfl)
set_option maxHeartbeats 2000000 in
theorem C_ref04_RoleOf {x0 : T_api_Schema} {x1 : Int}  {r : Int} (h : L_ref04_RoleOf x0 x1 = some r) : Meets Try.prog 72 [VP.of (x0), VP.of (x1)] (VP.of (r)) := by
  unfold L_ref04_RoleOf at h
  refine Meets.of Try.func72 rfl Try.ntmps72 rfl fun W A => ?_
  refine Wp.seq ?_
  refine Wp.reg ?_
  refine Sq.box (z := (x0 : T_api_Schema)) (look_t rfl) rfl fun p1 => ?_
  refine Sq.v (r_asg (look_int 0)) rfl rfl rfl ?_
  refine Sq.nil ?_
  refine To.next ?_
  refine Wp.seq ?_
  refine Wp.reg ?_
  refine Sq.v (r_load (i := 0) (Lens.id T_api_Schema) (r := x0) ty33 (look_t rfl) rfl rfl rfl) rfl rfl rfl ?_
  obtain ⟨y1, hy1, h⟩ := bind_some h
  refine Sq.v (r_call en110 (C_ref04_ids hy1) ⟨look_t rfl, trivial⟩) rfl rfl rfl ?_
  refine Sq.v (r_index (k := 5) Try.underlying219 ty64 (look_t rfl) (look_int 5) ⟨by decide, rfl⟩) rfl rfl rfl ?_
  refine Sq.v (r_move (look_t rfl)) rfl rfl rfl ?_
  obtain ⟨y2, hy2, h⟩ := bind_some h
  refine Sq.v (r_call en109 (C_ref04_index hy2) ⟨look_t rfl, look_t rfl, trivial⟩) rfl rfl rfl ?_
  refine Sq.v (r_asg (look_t rfl)) rfl rfl rfl ?_
  refine Sq.nil ?_
  refine To.next ?_
  refine Wp.ret ?_
  replace h := some_in h
  subst h
  exact To.end1 rfl (rv_t rfl)
set_option maxHeartbeats 2000000 in
theorem C_ref01_Compare {x0 : T_api_Value} {x1 : T_api_Value}  {r : Int} (h : L_ref01_Compare x0 x1 = some r) : Meets Try.prog 73 [VP.of (x0), VP.of (x1)] (VP.of (r)) := by
  unfold L_ref01_Compare at h
  refine Meets.of Try.func73 rfl Try.ntmps73 rfl fun W A => ?_
  refine Wp.seq ?_
  refine Wp.reg ?_
  refine Sq.box (z := (x0 : T_api_Value)) (look_t rfl) rfl fun p1 => ?_
  refine Sq.box (z := (x1 : T_api_Value)) (look_t rfl) rfl fun p2 => ?_
  refine Sq.v (r_asg (look_int 0)) rfl rfl rfl ?_
  refine Sq.nil ?_
  refine To.next ?_
  refine Wp.seq ?_
  obtain ⟨y1, hy1, h⟩ := bind_some h
  obtain ⟨y2, hy2, h⟩ := bind_some h
  refine Wp.draw mixed 6 [some 8, some 9, some 10, some 11, some 5, some 6] [[], [0], [], [2], [], []] [.val (VP.of (x0)), .val (VP.of (y1)), .val (VP.of (x1)), .val (VP.of (y2)), .new (.var (default : Vector Bool 128)), .new (.var (default : Vector Bool 128))] [false, false, false, false, false, false] (by kernel_rfl) rfl rfl rfl (fun ps1 => ⟨fun L' hL => HO.v (r_load (i := 1) (Lens.id T_api_Value) (r := x0) ty47 (look_t rfl) (hL _ _ rfl rfl) rfl rfl) rfl, fun L' hL => HO.v (r_call en111 (C_ref01_Read hy1) ⟨look_t rfl, trivial⟩) rfl, fun L' hL => HO.v (r_load (i := 0) (Lens.id T_api_Value) (r := x1) ty47 (look_t rfl) (hL _ _ rfl rfl) rfl rfl) rfl, fun L' hL => HO.v (r_call en111 (C_ref01_Read hy2) ⟨look_t rfl, trivial⟩) rfl, ao_alloc zr222, ao_alloc zr222, trivial⟩) fun ps1 => ?_
  refine Sq.store (i := 0) (Lens.id (Vector Bool 128)) (v := (y1 : Vector Bool 128)) (b' := (y1 : Vector Bool 128)) ty222 (look_t rfl) (look_t rfl) rfl rfl rfl ?_
  refine Sq.store (i := 1) (Lens.id (Vector Bool 128)) (v := (y2 : Vector Bool 128)) (b' := (y2 : Vector Bool 128)) ty222 (look_t rfl) (look_t rfl) rfl rfl rfl ?_
  refine Sq.nil ?_
  refine To.next ?_
  refine Wp.seq ?_
  refine Wp.seq ?_
  refine Wp.reg ?_
  refine Sq.v (r_asg (look_int 127)) rfl rfl rfl ?_
  refine Sq.nil ?_
  refine To.next ?_
  refine Wp.block ?_
  obtain ⟨e1, hl, h⟩ := bind_some h
  refine Wp.loopG (σ := Int) (ε := (Int × Bool) ⊕ (Int × Int × Bool × Bool × Bool)) (γ := Unit) (δ := Unit) hl (fun s1 g1 => [(0, VP.of (x0)), (1, VP.of (x1)), (2, VP.eq (.pointer (some ⟨p1, 0, none⟩))), (3, VP.eq (.pointer (some ⟨p2, 0, none⟩))), (4, VP.of (0 : Int)), (5, VP.eq (.pointer (some ⟨(ps1 4), 0, none⟩))), (6, VP.eq (.pointer (some ⟨(ps1 5), 0, none⟩))), (7, VP.of (s1))]) (fun s1 g1 => [⟨some (ps1 4), .var (y1 : Vector Bool 128)⟩, ⟨some (ps1 5), .var (y2 : Vector Bool 128)⟩, ⟨some p2, .var (x1 : T_api_Value)⟩, ⟨some p1, .var (x0 : T_api_Value)⟩]) (fun q1 => Sum.elim (fun q1 => Exit.exit 0) (fun q1 => Exit.ret) q1) (fun q1 g1 => Sum.elim (fun q1 => [(0, VP.of (x0)), (1, VP.of (x1)), (2, VP.eq (.pointer (some ⟨p1, 0, none⟩))), (3, VP.eq (.pointer (some ⟨p2, 0, none⟩))), (4, VP.of (0 : Int)), (5, VP.eq (.pointer (some ⟨(ps1 4), 0, none⟩))), (6, VP.eq (.pointer (some ⟨(ps1 5), 0, none⟩))), (7, VP.of (q1.1)), (13, VP.of (q1.2))]) (fun q1 => [(0, VP.of (x0)), (1, VP.of (x1)), (2, VP.eq (.pointer (some ⟨p1, 0, none⟩))), (3, VP.eq (.pointer (some ⟨p2, 0, none⟩))), (4, VP.of (q1.1)), (5, VP.eq (.pointer (some ⟨(ps1 4), 0, none⟩))), (6, VP.eq (.pointer (some ⟨(ps1 5), 0, none⟩))), (7, VP.of (q1.2.1)), (13, VP.of (q1.2.2.1)), (22, VP.of (q1.2.2.2.1)), (25, VP.of (q1.2.2.2.2))]) q1) (fun q1 g1 => Sum.elim (fun q1 => [⟨some (ps1 4), .var (y1 : Vector Bool 128)⟩, ⟨some (ps1 5), .var (y2 : Vector Bool 128)⟩, ⟨some p2, .var (x1 : T_api_Value)⟩, ⟨some p1, .var (x0 : T_api_Value)⟩]) (fun q1 => [⟨some (ps1 4), .var (y1 : Vector Bool 128)⟩, ⟨some (ps1 5), .var (y2 : Vector Bool 128)⟩, ⟨some p2, .var (x1 : T_api_Value)⟩, ⟨some p1, .var (x0 : T_api_Value)⟩]) q1) () rfl (.same rfl (.same rfl (.same rfl (.same rfl (.same rfl (.same rfl (.same rfl (.same rfl .nil)))))))) (fun s1 r h g1 => ?_) (fun g1 => ?_)
  · clear hl
    refine Wp.seq ?_
    refine Wp.seq ?_
    refine Wp.reg ?_
    refine Sq.v (r_move (look_t rfl)) rfl rfl rfl ?_
    refine Sq.v (r_geq (look_t rfl) (look_int 0)) rfl rfl rfl ?_
    refine Sq.nil ?_
    refine To.next ?_
    refine Wp.cond (look_t rfl) (fun hc => ?_) (fun hc => ?_)
    · replace h := cond_t hc h
      refine Wp.skip ?_
      refine To.next ?_
      refine Wp.seq ?_
      refine Wp.block ?_
      refine Wp.seq ?_
      obtain ⟨k1, hk1, h⟩ := bind_some h
      obtain ⟨k2, hk2, h⟩ := bind_some h
      refine Wp.draw mixed 7 [some 16, some 17, some 18, some 19, some 20, some 21, some 22] [[], [0], [1], [], [3], [4], [2, 5]] [.val (VP.of (s1)), .val (VP.eq (.pointer (some ⟨(ps1 4), 0 + k1 * 1, none⟩))), .val (VP.of (vget y1 k1)), .val (VP.of (s1)), .val (VP.eq (.pointer (some ⟨(ps1 5), 0 + k2 * 1, none⟩))), .val (VP.of (vget y2 k2)), .val (VP.of ((vget y1 k1) != (vget y2 k2)))] [false, false, false, false, false, false, false] (by kernel_rfl) rfl rfl rfl (fun ps2 => ⟨fun L' hL => HO.v (r_move (look_t rfl)) rfl, fun L' hL => HO.v (r_ia (k := k1) ar222 (look_t rfl) (look_t rfl) (idx_some hk1)) rfl, fun L' hL => HO.v (r_load (i := 0) ((Lens.id (Vector Bool 128)).comp (Lens.idx (α := Bool) 128 k1 (idx_some hk1).1)) (r := vget y1 k1) ty4 (look_t rfl) (hL _ _ rfl rfl) rfl rfl) rfl, fun L' hL => HO.v (r_move (look_t rfl)) rfl, fun L' hL => HO.v (r_ia (k := k2) ar222 (look_t rfl) (look_t rfl) (idx_some hk2)) rfl, fun L' hL => HO.v (r_load (i := 1) ((Lens.id (Vector Bool 128)).comp (Lens.idx (α := Bool) 128 k2 (idx_some hk2).1)) (r := vget y2 k2) ty4 (look_t rfl) (hL _ _ rfl rfl) rfl rfl) rfl, fun L' hL => HO.v (r_bne Try.underlying4 (look_t rfl) (look_t rfl)) rfl, trivial⟩) fun ps2 => ?_
      refine Sq.nil ?_
      refine To.next ?_
      refine Wp.cond (look_t rfl) (fun hc => ?_) (fun hc => ?_)
      · replace h := cond_t hc h
        refine Wp.seq ?_
        refine Wp.seq ?_
        refine Wp.reg ?_
        refine Sq.v (r_move (look_t rfl)) rfl rfl rfl ?_
        obtain ⟨k3, hk3, h⟩ := bind_some h
        refine Sq.v (r_ia (k := k3) ar222 (look_t rfl) (look_t rfl) (idx_some hk3)) rfl rfl rfl ?_
        refine Sq.v (r_load (i := 1) ((Lens.id (Vector Bool 128)).comp (Lens.idx (α := Bool) 128 k3 (idx_some hk3).1)) (r := vget y2 k3) ty4 (look_t rfl) rfl rfl rfl) rfl rfl rfl ?_
        refine Sq.nil ?_
        refine To.next ?_
        refine Wp.cond (look_t rfl) (fun hc => ?_) (fun hc => ?_)
        · replace h := cond_t hc h
          refine Wp.seq ?_
          refine Wp.reg ?_
          refine Sq.v (r_asg (look_int (-1))) rfl rfl rfl ?_
          refine Sq.nil ?_
          refine To.next ?_
          refine Wp.ret ?_
          refine To.ret ?_
          refine To.bret ?_
          refine To.ret ?_
          replace h := some_in h
          subst h
          exact To.leaveG () 0 rfl (by simp) rfl (.same rfl (.same rfl (.same rfl (.same rfl (.same rfl (.same rfl (.same rfl (.same rfl (.same rfl (.same rfl (.same rfl .nil)))))))))))
        · replace h := cond_f hc h
          refine Wp.skip ?_
          refine To.next ?_
          refine Wp.seq ?_
          refine Wp.reg ?_
          refine Sq.v (r_asg (look_int 1)) rfl rfl rfl ?_
          refine Sq.nil ?_
          refine To.next ?_
          refine Wp.ret ?_
          refine To.bret ?_
          refine To.ret ?_
          replace h := some_in h
          subst h
          exact To.leaveG () 0 rfl (by simp) rfl (.same rfl (.same rfl (.same rfl (.same rfl (.same rfl (.same rfl (.same rfl (.same rfl (.same rfl (.same rfl (.same rfl .nil)))))))))))
      · replace h := cond_f hc h
        refine Wp.skip ?_
        refine To.bnorm ?_
        refine To.next ?_
        refine Wp.reg ?_
        refine Sq.v (r_move (look_t rfl)) rfl rfl rfl ?_
        refine Sq.v (r_sub (look_t rfl) (look_int 1)) rfl rfl rfl ?_
        refine Sq.v (r_asg (look_t rfl)) rfl rfl rfl ?_
        refine Sq.nil ?_
        replace h := some_in h
        subst h
        exact To.roundG () 0 rfl (.same rfl (.same rfl (.same rfl (.same rfl (.same rfl (.same rfl (.same rfl (.same rfl .nil))))))))
    · replace h := cond_f hc h
      refine Wp.exit ?_
      refine To.exit ?_
      replace h := some_in h
      subst h
      exact To.leaveG () 0 rfl (by simp) rfl (.same rfl (.same rfl (.same rfl (.same rfl (.same rfl (.same rfl (.same rfl (.same rfl (.same rfl .nil)))))))))
  · clear hl
    rcases e1 with e1 | e1
    · simp only [Sum.elim_inl] at h
      refine To.bexit ?_
      refine To.next ?_
      refine Wp.seq ?_
      refine Wp.reg ?_
      refine Sq.v (r_asg (look_int 0)) rfl rfl rfl ?_
      refine Sq.nil ?_
      refine To.next ?_
      refine Wp.ret ?_
      replace h := some_in h
      subst h
      exact To.end1 rfl (rv_t rfl)
    · simp only [Sum.elim_inr] at h
      refine To.bret ?_
      refine To.ret ?_
      replace h := some_in h
      subst h
      exact To.end1 rfl (rv_t rfl)
set_option maxHeartbeats 2000000 in
theorem C_ref20_Primary {x0 : T_ref20_State} {x1 : Int}  {r : Int × Bool} (h : L_ref20_Primary x0 x1 = some r) : Meets Try.prog 29 [VP.of (x0), VP.of (x1)] (VP.tup [VP.of (r.1), VP.of (r.2)]) := by
  unfold L_ref20_Primary at h
  refine Meets.of Try.func29 rfl Try.ntmps29 rfl fun W A => ?_
  refine Wp.seq ?_
  refine Wp.reg ?_
  refine Sq.box (z := (x0 : T_ref20_State)) (look_t rfl) rfl fun p1 => ?_
  refine Sq.v (r_asg (look_int 0)) rfl rfl rfl ?_
  refine Sq.v (r_asg (look_bool false)) rfl rfl rfl ?_
  refine Sq.nil ?_
  refine To.next ?_
  refine Wp.seq ?_
  refine Wp.seq ?_
  refine Wp.reg ?_
  refine Sq.v (r_fa fd44_0 (look_t rfl)) rfl rfl rfl ?_
  refine Sq.v (r_load (i := 0) ((Lens.id T_ref20_State).comp le_T_ref20_State_Sessions) (r := x0.f_Sessions) ty41 (look_t rfl) rfl rfl rfl) rfl rfl rfl ?_
  refine Sq.v (r_len Try.underlying41 (look_t rfl)) rfl rfl rfl ?_
  refine Sq.v (r_move (look_int 0)) rfl rfl rfl ?_
  refine Sq.nil ?_
  refine To.next ?_
  refine Wp.block ?_
  obtain ⟨e1, hl, h⟩ := bind_some h
  refine Wp.loopG (σ := Int) (ε := (Int × Bool) ⊕ (Int × Bool × Int × Bool × Bool)) (γ := Unit) (δ := Unit) hl (fun s1 g1 => [(0, VP.of (x0)), (1, VP.of (x1)), (2, VP.eq (.pointer (some ⟨p1, 0, none⟩))), (4, VP.of (0 : Int)), (5, VP.of (false)), (9, VP.of (x0.f_Sessions)), (10, VP.of (x0.f_Sessions.length : Int)), (11, VP.of (s1))]) (fun s1 g1 => [⟨some p1, .var (x0 : T_ref20_State)⟩]) (fun q1 => Sum.elim (fun q1 => Exit.exit 0) (fun q1 => Exit.ret) q1) (fun q1 g1 => Sum.elim (fun q1 => [(0, VP.of (x0)), (1, VP.of (x1)), (2, VP.eq (.pointer (some ⟨p1, 0, none⟩))), (4, VP.of (0 : Int)), (5, VP.of (false)), (9, VP.of (x0.f_Sessions)), (10, VP.of (x0.f_Sessions.length : Int)), (11, VP.of (q1.1)), (12, VP.of (q1.2))]) (fun q1 => [(0, VP.of (x0)), (1, VP.of (x1)), (2, VP.eq (.pointer (some ⟨p1, 0, none⟩))), (4, VP.of (q1.1)), (5, VP.of (q1.2.1)), (9, VP.of (x0.f_Sessions)), (10, VP.of (x0.f_Sessions.length : Int)), (11, VP.of (q1.2.2.1)), (12, VP.of (q1.2.2.2.1)), (26, VP.of (q1.2.2.2.2))]) q1) (fun q1 g1 => Sum.elim (fun q1 => [⟨some p1, .var (x0 : T_ref20_State)⟩]) (fun q1 => [⟨some p1, .var (x0 : T_ref20_State)⟩]) q1) () rfl (.same rfl (.same rfl (.same rfl (.same rfl (.same rfl (.same rfl (.same rfl (.same rfl .nil)))))))) (fun s1 r h g1 => ?_) (fun g1 => ?_)
  · clear hl
    refine Wp.seq ?_
    refine Wp.reg ?_
    refine Sq.v (r_lss (look_t rfl) (look_t rfl)) rfl rfl rfl ?_
    refine Sq.nil ?_
    refine To.next ?_
    refine Wp.seq ?_
    refine Wp.cond (look_t rfl) (fun hc => ?_) (fun hc => ?_)
    · replace h := cond_t hc h
      refine Wp.skip ?_
      refine To.next ?_
      refine Wp.seq ?_
      refine Wp.block ?_
      refine Wp.seq ?_
      refine Wp.reg ?_
      obtain ⟨k1, hk1, h⟩ := bind_some h
      refine Sq.v (r_ias (k := k1) Try.underlying41 ty145 (look_t rfl) (look_t rfl) (idx_some hk1)) rfl rfl rfl ?_
      refine Sq.v (r_loadp ty145 (look_t rfl)) rfl rfl rfl ?_
      refine Sq.alloc zr145 rfl fun p2 => ?_
      refine Sq.store (i := 0) (Lens.id T_ref20_Session) (v := (lget x0.f_Sessions k1 : T_ref20_Session)) (b' := (lget x0.f_Sessions k1 : T_ref20_Session)) ty145 (look_t rfl) (look_t rfl) rfl rfl rfl ?_
      refine Sq.nil ?_
      refine To.next ?_
      refine Wp.seq ?_
      obtain ⟨y1, hy1, h⟩ := bind_some h
      obtain ⟨z1, hz1, h⟩ := bind_some h
      refine Wp.draw mixed 12 [some 15, some 16, some 17, some 18, some 19, some 20, some 21, some 22, some 23, some 24, some 25, some 26] [[], [0], [], [1, 2], [3], [4], [4, 5], [4], [4], [4, 7, 8], [4, 6, 9], [4, 10]] [.val (VP.eq (.pointer (some ⟨p2, 0 + 1, none⟩))), .val (VP.of ((lget x0.f_Sessions k1).f_Role)), .val (VP.of (x1)), .val (VP.of (((lget x0.f_Sessions k1).f_Role) == x1)), .val (VP.of (((lget x0.f_Sessions k1).f_Role) == x1)), .val (VP.cond ((((lget x0.f_Sessions k1).f_Role) == x1) = true) (VP.eq (.pointer (some ⟨p2, 0 + 2, none⟩)))), .val (VP.cond ((((lget x0.f_Sessions k1).f_Role) == x1) = true) (VP.of ((lget x0.f_Sessions k1).f_Election))), .val (VP.cond ((((lget x0.f_Sessions k1).f_Role) == x1) = true) (VP.of (x0))), .val (VP.cond ((((lget x0.f_Sessions k1).f_Role) == x1) = true) (VP.of (x1))), .val (VP.cond ((((lget x0.f_Sessions k1).f_Role) == x1) = true) (VP.of (y1))), .val (VP.cond ((((lget x0.f_Sessions k1).f_Role) == x1) = true) (VP.of (decide ((lget x0.f_Sessions k1).f_Election = y1)))), .val (VP.of (z1))] [false, false, false, false, false, false, false, false, false, false, false, false] (by kernel_rfl) rfl rfl rfl (fun ps1 => ⟨fun L' hL => HO.v (r_fa fd145_1 (look_t rfl)) rfl, fun L' hL => HO.v (r_load (i := 0) ((Lens.id T_ref20_Session).comp le_T_ref20_Session_Role) (r := (lget x0.f_Sessions k1).f_Role) ty3 (look_t rfl) (hL _ _ rfl rfl) rfl rfl) rfl, fun L' hL => HO.v (r_move (look_t rfl)) rfl, fun L' hL => HO.v (r_eql (look_t rfl) (look_t rfl)) rfl, fun L' hL => HO.v (r_move (look_t rfl)) rfl, fun L' hL => HO.g (fun hb => r_fa fd145_2 (look_t rfl)) rfl rfl rfl, fun L' hL => HO.g (fun hb => r_load (i := 0) ((Lens.id T_ref20_Session).comp le_T_ref20_Session_Election) (r := (lget x0.f_Sessions k1).f_Election) ty47 (look_tc rfl hb) (hL _ _ rfl rfl) rfl rfl) rfl rfl rfl, fun L' hL => HO.g (fun hb => r_load (i := 1) (Lens.id T_ref20_State) (r := x0) ty44 (look_t rfl) (hL _ _ rfl rfl) rfl rfl) rfl rfl rfl, fun L' hL => HO.g (fun hb => r_move (look_t rfl)) rfl rfl rfl, fun L' hL => HO.g (fun hb => r_call en74 (C_ref20_top (condM_some hy1 hb)) ⟨look_tc rfl hb, look_tc rfl hb, trivial⟩) rfl rfl rfl, fun L' hL => HO.g (fun hb => r_eqA eqv47 rfl eqg47 rfl (look_tc rfl hb) (look_tc rfl hb)) rfl rfl rfl, fun L' hL => HO.v ((r_and (look_t rfl) (look_t rfl) (fun h => h)).as (some_in hz1)) rfl, trivial⟩) fun ps1 => ?_
      refine Sq.nil ?_
      refine To.next ?_
      refine Wp.cond (look_t rfl) (fun hc => ?_) (fun hc => ?_)
      · replace h := cond_t hc h
        refine Wp.seq ?_
        refine Wp.reg ?_
        refine Sq.v (r_fa fd145_0 (look_t rfl)) rfl rfl rfl ?_
        refine Sq.v (r_load (i := 0) ((Lens.id T_ref20_Session).comp le_T_ref20_Session_Controller) (r := (lget x0.f_Sessions k1).f_Controller) ty3 (look_t rfl) rfl rfl rfl) rfl rfl rfl ?_
        refine Sq.v (r_asg (look_t rfl)) rfl rfl rfl ?_
        refine Sq.v (r_asg (look_bool true)) rfl rfl rfl ?_
        refine Sq.nil ?_
        refine To.next ?_
        refine Wp.ret ?_
        refine To.bret ?_
        refine To.ret ?_
        replace h := some_in h
        subst h
        exact To.leaveG () 1 rfl (by simp) rfl (.same rfl (.same rfl (.same rfl (.same rfl (.same rfl (.same rfl (.same rfl (.same rfl (.same rfl (.same rfl .nil))))))))))
      · replace h := cond_f hc h
        refine Wp.skip ?_
        refine To.bnorm ?_
        refine To.next ?_
        refine Wp.reg ?_
        refine Sq.v (r_add (look_t rfl) (look_int 1)) rfl rfl rfl ?_
        refine Sq.v (r_move (look_t rfl)) rfl rfl rfl ?_
        refine Sq.nil ?_
        replace h := some_in h
        subst h
        exact To.roundG () 1 rfl (.same rfl (.same rfl (.same rfl (.same rfl (.same rfl (.same rfl (.same rfl (.same rfl .nil))))))))
    · replace h := cond_f hc h
      refine Wp.exit ?_
      refine To.exit ?_
      replace h := some_in h
      subst h
      exact To.leaveG () 0 rfl (by simp) rfl (.same rfl (.same rfl (.same rfl (.same rfl (.same rfl (.same rfl (.same rfl (.same rfl (.same rfl .nil)))))))))
  · clear hl
    rcases e1 with e1 | e1
    · simp only [Sum.elim_inl] at h
      refine To.bexit ?_
      refine To.next ?_
      refine Wp.seq ?_
      refine Wp.reg ?_
      refine Sq.v (r_asg (look_int 0)) rfl rfl rfl ?_
      refine Sq.v (r_asg (look_bool false)) rfl rfl rfl ?_
      refine Sq.nil ?_
      refine To.next ?_
      refine Wp.ret ?_
      replace h := some_in h
      subst h
      exact To.end2 rfl (rv_t rfl) (rv_t rfl)
    · simp only [Sum.elim_inr] at h
      refine To.bret ?_
      refine To.ret ?_
      replace h := some_in h
      subst h
      exact To.end2 rfl (rv_t rfl) (rv_t rfl)
set_option maxHeartbeats 2000000 in
theorem C_mcase_Codes_Bool {x0 : T_mcase_Codes} {pp0 : Nat} {r : Bool × T_mcase_Codes} (h : L_mcase_Codes_Bool x0 = some r) : MeetsO Try.prog 54 [VP.eq (.pointer (some ⟨pp0, 0, none⟩))] [⟨some pp0, .var (x0 : T_mcase_Codes)⟩] (δ := Unit) (fun d => VP.of (r.1)) (fun d => [⟨some pp0, .var (r.2 : T_mcase_Codes)⟩]) := by
  unfold L_mcase_Codes_Bool at h
  refine MeetsO.of Try.func54 rfl Try.ntmps54 rfl fun W A => ?_
  refine Wp.seq ?_
  refine Wp.reg ?_
  refine Sq.v (r_asg (look_bool false)) rfl rfl rfl ?_
  refine Sq.nil ?_
  refine To.next ?_
  refine Wp.seq ?_
  refine Wp.reg ?_
  refine Sq.v (r_move (look_t rfl)) rfl rfl rfl ?_
  refine Sq.bring 0 rfl ?_
  obtain ⟨y1, hy1, h⟩ := bind_some h
  refine Sq.callO (Lin := [⟨some pp0, .var (x0 : T_mcase_Codes)⟩]) (Lr := []) en49 (C_mcase_Codes_Next hy1) ⟨look_t rfl, look_int 2, trivial⟩ rfl fun q1 => ?_
  refine Sq.v (r_eql (look_t rfl) (look_int 1)) rfl rfl rfl ?_
  refine Sq.v (r_asg (look_t rfl)) rfl rfl rfl ?_
  refine Sq.nil ?_
  refine To.next ?_
  refine Wp.ret ?_
  refine To.bring 0 rfl ?_
  replace h := some_in h
  subst h
  exact To.endO1 () (.cons_cons _ (List.nil_sublist _)) rfl rfl (rvo_t rfl)
end Go.Proofs.Ytodajdohokmjnaa
