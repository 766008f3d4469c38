/-
  Printed by the decompiler (dec.py) out of the seat's translation. Each function meets its functional program. Conditions: none.
-/
import Derived.Test.YtodajdohokmjnaaDl
namespace Go.Proofs.Ytodajdohokmjnaa
open Go Gv
set_option linter.unusedVariables false
set_option linter.unusedSimpArgs false
set_option maxRecDepth 100000
set_option maxHeartbeats 2000000 in
theorem Cop0_2_slices_Insert_session_Top {x0 x2 : List T_session_Top} {x1 : Int} {key00 key02 : Option Nat} {cap00 cap02 : Nat} {r : List T_session_Top} (h : Lp0_2_slices_Insert_session_Top x0 x1 x2 = some r) : MeetsO Try.prog 108 [VP.eq (slv key00 x0.length cap00), VP.of x1, VP.eq (slv key02 x2.length cap02)] [⟨key00, .row 67 x0 cap00⟩, ⟨key02, .row 67 x2 cap02⟩] (δ := (Option Nat × Nat)) (fun d => VP.eq (slv d.1 r.length d.2)) (fun d => [⟨d.1, .row 67 r d.2⟩]) := by
  unfold Lp0_2_slices_Insert_session_Top at h
  obtain ⟨k, rfl, hk, hv, hb1, hb2, rfl⟩ := insM_some h
  refine MeetsO.of Try.func108 rfl Try.ntmps108 rfl fun W A => ?_
  refine Wp.seq ?_
  refine Wp.reg ?_
  refine Sq.v (r_asg look_own) rfl rfl rfl ?_
  refine Sq.nil ?_
  refine To.next ?_
  refine Wp.seq ?_
  refine Wp.reg ?_
  refine Sq.v (r_move (look_t rfl)) rfl rfl rfl ?_
  refine Sq.v (r_move (look_t rfl)) rfl rfl rfl ?_
  refine Sq.v (r_sliceO (i := 0) (xs := x0) Try.underlying38 ty67 (look_t rfl) rfl (.some (look_t rfl)) .none rfl rfl ⟨hk, Nat.le_refl _⟩) rfl rfl rfl ?_
  refine Sq.nil ?_
  refine To.next ?_
  refine Wp.seq ?_
  refine Wp.reg ?_
  refine Sq.v (r_move (look_t rfl)) rfl rfl rfl ?_
  refine Sq.v (r_lenO (i := 1) (xs := x2) Try.underlying38 (look_t rfl) rfl rfl) rfl rfl rfl ?_
  refine Sq.v (r_asg (look_t rfl)) rfl rfl rfl ?_
  refine Sq.nil ?_
  refine To.next ?_
  refine Wp.seq ?_
  refine Wp.seq ?_
  refine Wp.reg ?_
  refine Sq.v (r_move (look_t rfl)) rfl rfl rfl ?_
  refine Sq.v (r_eql (look_t rfl) (look_int 0)) rfl rfl rfl ?_
  refine Sq.nil ?_
  refine To.next ?_
  refine Wp.cond (look_t rfl) (fun hc => ?_) (fun _ => ?_)
  · exfalso; simp only [beq_iff_eq] at hc; omega
  refine Wp.skip ?_
  refine To.next ?_
  refine Wp.seq ?_
  refine Wp.reg ?_
  refine Sq.v (r_move (look_t rfl)) rfl rfl rfl ?_
  refine Sq.v (r_lenO (i := 0) (xs := x0) Try.underlying38 (look_t rfl) rfl rfl) rfl rfl rfl ?_
  refine Sq.v (r_asg (look_t rfl)) rfl rfl rfl ?_
  refine Sq.nil ?_
  refine To.next ?_
  refine Wp.seq ?_
  refine Wp.seq ?_
  refine Wp.reg ?_
  refine Sq.v (r_move (look_t rfl)) rfl rfl rfl ?_
  refine Sq.v (r_move (look_t rfl)) rfl rfl rfl ?_
  refine Sq.v (r_eql (look_t rfl) (look_t rfl)) rfl rfl rfl ?_
  refine Sq.nil ?_
  refine To.next ?_
  refine Wp.cond (look_t rfl) (fun hc => ?_) (fun hc => ?_)
  · have hkn : k = x0.length := by simp only [beq_iff_eq] at hc; omega
    subst hkn
    refine Wp.seq ?_
    refine Wp.reg ?_
    refine Sq.v (r_move (look_t rfl)) rfl rfl rfl ?_
    refine Sq.freezeL (α := T_session_Top) 1 [2, 13] ⟨rfl, rfl, trivial⟩ rfl ?_
    refine Sq.v (r_move (look_t rfl)) rfl rfl rfl ?_
    refine Sq.app (i := 0) (xs := x0) (ys := x2) (r := x0 ++ x2) Try.underlying38 ty67 zr67 (by kernel_rfl) (look_t rfl) rfl (look_t rfl) (by unfold appM; rw [if_pos ⟨hb1, hb2⟩]) rfl fun key1 cap1 => ?_
    refine Sq.v (r_asg (look_t rfl)) rfl rfl rfl ?_
    refine Sq.nil ?_
    refine To.next ?_
    refine Wp.ret ?_
    have hr : x0.take x0.length ++ x2 ++ x0.drop x0.length = x0 ++ x2 := by simp
    rw [hr]
    exact To.endO1 (key1, cap1) (.cons_cons _ (List.nil_sublist _)) rfl rfl (rvo_t rfl)
  have hkn : k < x0.length := by simp only [beq_eq_false_iff_ne] at hc; omega
  refine Wp.skip ?_
  refine To.next ?_
  refine Wp.some (i := 0) (xs := x0) rfl (by omega) fun p hp hcap hcm => ?_
  subst hp
  refine Wp.some (i := 1) (xs := x2) rfl (by omega) fun q hq hcap2 hcm2 => ?_
  subst hq
  refine Wp.apart rfl fun hpq => ?_
  refine Wp.seq ?_
  refine Wp.seq ?_
  refine Wp.reg ?_
  refine Sq.v (r_move (look_t rfl)) rfl rfl rfl ?_
  refine Sq.v (r_move (look_t rfl)) rfl rfl rfl ?_
  refine Sq.v (r_add (look_t rfl) (look_t rfl)) rfl rfl rfl ?_
  refine Sq.v (r_move (look_t rfl)) rfl rfl rfl ?_
  refine Sq.v (r_capO Try.underlying38 (look_t rfl)) rfl rfl rfl ?_
  refine Sq.v (r_gtr (look_t rfl) (look_t rfl)) rfl rfl rfl ?_
  refine Sq.nil ?_
  refine To.next ?_
  have hw : w64 ((x0.length : Int) + (x2.length : Int)) = ((x0.length + x2.length : Nat) : Int) := by
    have hml : maxLen = 9223372036854775807 := rfl
    rw [w64_in (by omega) (by omega)]; simp
  refine Wp.cond (look_t rfl) (fun hc2 => ?_) (fun hc2 => ?_)
  · have hroom : cap00 < x0.length + x2.length := by rw [hw] at hc2; simp only [decide_eq_true_eq] at hc2; omega
    have hml : maxLen = 9223372036854775807 := rfl
    have hj : w64 (w64 ((x0.length : Int) + (x2.length : Int)) - (k : Int)) = ((x0.length + x2.length - k : Nat) : Int) := by
      rw [hw, w64_in (by omega) (by omega)]; omega
    refine Wp.seq ?_
    refine Wp.reg ?_
    refine Sq.v (r_move (look_t rfl)) rfl rfl rfl ?_
    refine Sq.v (r_move (look_t rfl)) rfl rfl rfl ?_
    refine Sq.v (r_sliceO (i := 0) (xs := x0) Try.underlying38 ty67 (look_t rfl) rfl .none (.some (look_t rfl)) rfl rfl ⟨Nat.zero_le _, hk⟩) rfl rfl rfl ?_
    refine Sq.v (r_move (look_t rfl)) rfl rfl rfl ?_
    refine Sq.v (r_move (look_t rfl)) rfl rfl rfl ?_
    refine Sq.v (r_add (look_t rfl) (look_t rfl)) rfl rfl rfl ?_
    refine Sq.v (r_move (look_t rfl)) rfl rfl rfl ?_
    refine Sq.v (r_sub (look_t rfl) (look_t rfl)) rfl rfl rfl ?_
    refine Sq.appZ (i := 0) (m := k) (k := x0.length + x2.length - k) (xs := x0) (z := (default : T_session_Top)) Try.underlying38 Try.underlying3 ty67 zr67 (by rfl) (by kernel_rfl) (look_t rfl) (by rw [← hj]; exact look_t rfl) rfl hk (by omega) (by omega) (by rw [show k + (x0.length + x2.length - k) = x0.length + x2.length by omega]; exact hb1) (by omega) rfl fun q1 cap1 => ?_
    refine Sq.v (r_asg (look_t rfl)) rfl rfl rfl ?_
    refine Sq.nil ?_
    refine To.next ?_
    have hlen : (x0.take k ++ List.replicate (x0.length + x2.length - k) (default : T_session_Top)).length = x0.length + x2.length := by simp; omega
    refine Wp.some (i := 0) (xs := x0.take k ++ List.replicate (x0.length + x2.length - k) (default : T_session_Top)) rfl (by omega) fun q2 hq2 hcapN hcmN => ?_
    rw [hlen] at hcapN
    refine Wp.seq ?_
    refine Wp.reg ?_
    refine Sq.v (r_move (look_t rfl)) rfl rfl rfl ?_
    refine Sq.v (r_move (look_t rfl)) rfl rfl rfl ?_
    refine Sq.v (r_sliceE (α := T_session_Top) (m := k) (h := k + (x0.length + x2.length - k)) Try.underlying38 ty67 (look_t rfl) (.some (look_t rfl)) .none rfl rfl ⟨by omega, by omega⟩) rfl rfl rfl ?_
    refine Sq.v (r_move (look_t rfl)) rfl rfl rfl ?_
    refine Sq.copyG (i := 0) (p := q1) (off := k * Rp.size T_session_Top) (dLen := k + (x0.length + x2.length - k) - k) (dCap := cap1 - k) (N := x2.length) (vs := x2) (T := 67) Try.underlying38 ty67 (by rw [← vslv_at (by omega)]; exact look_t rfl) (src_row (i := 2) (look_t rfl) rfl hv) (Nat.min_eq_left (by omega)) rfl rfl (fun A W o cells h h' => row_part (by omega) h h') ?_
    refine Sq.nil ?_
    refine To.next ?_
    have e1 : (x0.take k ++ List.replicate (x0.length + x2.length - k) (default : T_session_Top)).take k ++ x2 ++ (x0.take k ++ List.replicate (x0.length + x2.length - k) (default : T_session_Top)).drop (k + x2.length) = x0.take k ++ x2 ++ List.replicate (x0.length - k) (default : T_session_Top) := by
      have hk' : (x0.take k).length = k := by rw [List.length_take]; omega
      rw [List.take_left' hk', List.drop_append, hk', List.drop_eq_nil_of_le (by omega), List.nil_append, List.drop_replicate]
      congr 2
      omega
    have hw2 : w64 ((k : Int) + (x2.length : Int)) = ((k + x2.length : Nat) : Int) := by rw [w64_in (by omega) (by omega)]; simp
    refine Wp.seq ?_
    refine Wp.le (E' := [(0, VP.eq (slv (some p) x0.length cap00)), (1, VP.of (k : Int)), (7, VP.of (x2.length : Int)), (9, VP.eq (slv (some q1) (k + (x0.length + x2.length - k)) cap1))]) (.same rfl (.same rfl (.same rfl (.same rfl .nil)))) ?_
    refine Wp.drawD mixed (⟨some 46, [], [], [], fun _ => VP.eq (slv (some q1) (k + (x0.length + x2.length - k)) cap1), fun _ _ => ⟨none, .dead⟩⟩ :: ⟨some 47, [], [], [], fun _ => VP.of (k : Int), fun _ _ => ⟨none, .dead⟩⟩ :: ⟨some 48, [], [], [], fun _ => VP.of (x2.length : Int), fun _ _ => ⟨none, .dead⟩⟩ :: ⟨some 49, (1 :: 2 :: []), [], [], fun _ => VP.of (w64 ((k : Int) + (x2.length : Int))), fun _ _ => ⟨none, .dead⟩⟩ :: ⟨some 50, (0 :: 3 :: []), [], [], fun _ => VP.eq (vslv (some q1) (k + x2.length) ((k + (x0.length + x2.length - k)) - (k + x2.length)) cap1 (Rp.size T_session_Top)), fun _ _ => ⟨none, .dead⟩⟩ :: ⟨some 51, [], [], [], fun _ => VP.eq (slv (some p) x0.length cap00), fun _ _ => ⟨none, .dead⟩⟩ :: ⟨some 52, [], [], [], fun _ => VP.of (k : Int), fun _ _ => ⟨none, .dead⟩⟩ :: ⟨some 53, (5 :: 6 :: []), [], [], fun _ => VP.eq (vslv (some p) k (x0.length - k) cap00 (Rp.size T_session_Top)), fun _ _ => ⟨none, .dead⟩⟩ :: ⟨some 54, (4 :: 7 :: []), (0 :: 1 :: []), (0 :: []), fun _ => VP.of ((((x0.drop k).take (x0.length - k)).length : Nat) : Int), fun _ _ => ⟨some q1, .row 67 ((x0.take k ++ x2 ++ List.replicate (x0.length - k) (default : T_session_Top)).take (k + x2.length) ++ (x0.drop k).take (x0.length - k) ++ (x0.take k ++ x2 ++ List.replicate (x0.length - k) (default : T_session_Top)).drop (k + x2.length + ((x0.drop k).take (x0.length - k)).length)) cap1⟩⟩ :: []) ((some 46, [], [], []) :: (some 47, [], [], []) :: (some 48, [], [], []) :: (some 49, (1 :: 2 :: []), [], []) :: (some 50, (0 :: 3 :: []), [], []) :: (some 51, [], [], []) :: (some 52, [], [], []) :: (some 53, (5 :: 6 :: []), [], []) :: (some 54, (4 :: 7 :: []), (0 :: 1 :: []), (0 :: [])) :: []) (0 :: 1 :: 7 :: 9 :: []) rfl rfl (by kernel_rfl) ⟨?_, ?_, ?_, ?_, ?_, ?_, ?_, ?_, ?_, trivial⟩ fun hd => ?_
    · exact hd_v rfl rfl rfl fun hd E' L' hE hL => r_move (look_t (hE _ _ rfl))
    · exact hd_v rfl rfl rfl fun hd E' L' hE hL => r_move (look_t (hE _ _ rfl))
    · exact hd_v rfl rfl rfl fun hd E' L' hE hL => r_move (look_t (hE _ _ rfl))
    · exact hd_v rfl rfl rfl fun hd E' L' hE hL => r_add (look_t (hE _ _ rfl)) (look_t (hE _ _ rfl))
    · exact hd_v rfl rfl rfl fun hd E' L' hE hL => r_sliceE (α := T_session_Top) (m := k + x2.length) (h := (k + (x0.length + x2.length - k))) Try.underlying38 ty67 (look_t (hE _ _ rfl)) (.some (look_t (hE _ _ rfl))) .none hw2 rfl ⟨by omega, by omega⟩
    · exact hd_v rfl rfl rfl fun hd E' L' hE hL => r_move (look_t (hE _ _ rfl))
    · exact hd_v rfl rfl rfl fun hd E' L' hE hL => r_move (look_t (hE _ _ rfl))
    · exact hd_v rfl rfl rfl fun hd E' L' hE hL => r_sliceE (α := T_session_Top) (m := k) (h := x0.length) Try.underlying38 ty67 (look_t (hE _ _ rfl)) (.some (look_t (hE _ _ rfl))) .none rfl rfl ⟨by omega, by omega⟩
    · intro hd E' L' hE hL
      have h0 := hL 0 _ rfl rfl
      rw [e1] at h0
      refine Sq.copyG (i := 0) (p := q1) (off := (k + x2.length) * Rp.size T_session_Top) (T := 67) (vs := (x0.drop k).take (x0.length - k)) (N := x0.length - k) (dLen := (k + (x0.length + x2.length - k)) - (k + x2.length)) (dCap := cap1 - (k + x2.length)) Try.underlying38 ty67 (by rw [← vslv_at (p := q1) (lo := k + x2.length) (cap := cap1) (size := Rp.size T_session_Top) (by omega)]; exact look_t (hE _ _ rfl)) (src_own (i := 1) (look_t (hE _ _ rfl)) (hL 1 _ rfl rfl) (by omega) (by omega)) (by rw [show ((x0.drop k).take (x0.length - k)).length = x0.length - k by simp]; exact Nat.min_eq_left (by omega)) h0 rfl (fun A W o cells h h' => row_part (by simp; omega) h h') ?_
      refine Sq.nil ?_
      exact To.fin (gm []) rfl rfl
    have e2 : ((x0.take k ++ x2 ++ List.replicate (x0.length - k) (default : T_session_Top)).take (k + x2.length) ++ (x0.drop k).take (x0.length - k) ++ (x0.take k ++ x2 ++ List.replicate (x0.length - k) (default : T_session_Top)).drop (k + x2.length + ((x0.drop k).take (x0.length - k)).length)) = x0.take k ++ x2 ++ x0.drop k := by
      have hk' : (x0.take k ++ x2).length = k + x2.length := by simp; omega
      have hk2 : (x0.drop k).take (x0.length - k) = x0.drop k := List.take_of_length_le (by simp)
      have hk3 : (x0.take k ++ x2 ++ List.replicate (x0.length - k) (default : T_session_Top)).drop (k + x2.length + (x0.drop k).length) = [] := List.drop_eq_nil_of_le (by rw [List.length_append, hk', List.length_replicate, List.length_drop]; omega)
      rw [hk2, List.take_left' hk', hk3, List.append_nil]
    refine To.eqL (L2 := [⟨some q1, .row 67 ((x0.take k ++ x2 ++ List.replicate (x0.length - k) (default : T_session_Top)).take (k + x2.length) ++ (x0.drop k).take (x0.length - k) ++ (x0.take k ++ x2 ++ List.replicate (x0.length - k) (default : T_session_Top)).drop (k + x2.length + ((x0.drop k).take (x0.length - k)).length)) cap1⟩, ⟨some p, .row 67 x0 cap00⟩, ⟨some q, .row 67 x2 cap02⟩]) rfl ?_
    rw [e2]
    refine To.le (E' := [(9, VP.eq (slv (some q1) (k + (x0.length + x2.length - k)) cap1))]) (.same rfl .nil) ?_
    refine To.next ?_
    refine Wp.seq ?_
    refine Wp.reg ?_
    refine Sq.v (r_move (look_t rfl)) rfl rfl rfl ?_
    refine Sq.v (r_asg (look_t rfl)) rfl rfl rfl ?_
    refine Sq.nil ?_
    refine To.next ?_
    refine Wp.ret ?_
    have e3 : k + (x0.length + x2.length - k) = (x0.take k ++ x2 ++ x0.drop k).length := by simp; omega
    rw [e3]
    exact To.endO1 (some q1, cap1) (.cons_cons _ (List.nil_sublist _)) rfl rfl (rvo_t rfl)
  have hroom : x0.length + x2.length ≤ cap00 := by rw [hw] at hc2; simp only [decide_eq_false_iff_not] at hc2; omega
  have hml : maxLen = 9223372036854775807 := rfl
  have hw2 : w64 ((k : Int) + (x2.length : Int)) = ((k + x2.length : Nat) : Int) := by rw [w64_in (by omega) (by omega)]; simp
  refine Wp.skip ?_
  refine To.next ?_
  refine Wp.seq ?_
  refine Wp.reg ?_
  refine Sq.v (r_move (look_t rfl)) rfl rfl rfl ?_
  refine Sq.v (r_move (look_t rfl)) rfl rfl rfl ?_
  refine Sq.v (r_move (look_t rfl)) rfl rfl rfl ?_
  refine Sq.v (r_add (look_t rfl) (look_t rfl)) rfl rfl rfl ?_
  refine Sq.v (r_sliceE (α := T_session_Top) (m := 0) (h := x0.length + x2.length) Try.underlying38 ty67 (look_t rfl) .none (.some (look_t rfl)) rfl hw ⟨by omega, by omega⟩) rfl rfl rfl ?_
  refine Sq.v (r_asg (look_t rfl)) rfl rfl rfl ?_
  refine Sq.nil ?_
  refine To.next ?_
  refine Wp.seq ?_
  refine Wp.seq ?_
  refine Wp.reg ?_
  refine Sq.v (r_move (look_t rfl)) rfl rfl rfl ?_
  refine Sq.v (r_move (look_t rfl)) rfl rfl rfl ?_
  refine Sq.v (r_move (look_t rfl)) rfl rfl rfl ?_
  refine Sq.v (r_move (look_t rfl)) rfl rfl rfl ?_
  refine Sq.v (r_add (look_t rfl) (look_t rfl)) rfl rfl rfl ?_
  refine Sq.v (r_sliceE (α := T_session_Top) (p := p) (n := x0.length + x2.length) (cap := cap00) (m := k + x2.length) (h := x0.length + x2.length) Try.underlying38 ty67 (look_z (size := Rp.size T_session_Top) (look_t rfl)) (.some (look_t rfl)) .none hw2 rfl ⟨by omega, by omega⟩) rfl rfl rfl ?_
  refine Sq.v (r_ovl (α := T_session_Top) (p := p) (q := q) (T := 67) (U := 67) (xs := x0) (vs := x2) (cap := cap00) (cap' := cap02) (i := 0) (j := 1) (tR := 4) (by kernel_rfl) Try.func137 (by kernel_rfl) (by kernel_rfl) (by kernel_rfl) (by kernel_rfl) Try.underlying38 ty67 (look_t rfl) (look_a (p := p) (lo := k + x2.length) (cap := cap00) (size := Rp.size T_session_Top) (by omega) (look_t rfl)) rfl rfl hpq (by omega)) rfl rfl rfl ?_
  refine Sq.v (r_not (look_t rfl)) rfl rfl rfl ?_
  refine Sq.nil ?_
  refine To.next ?_
  refine Wp.cond (look_t rfl) (fun _ => ?_) (fun hc3 => by cases hc3)
  · have hs0 : (x0.length + x2.length - 0) = x0.length + x2.length := by omega
    have hdt : (x0.drop k).take (x0.length - k) = x0.drop k := List.take_of_length_le (by simp)
    refine Wp.seq ?_
    refine Wp.le (E' := [(0, VP.eq (vslv (some p) 0 (x0.length + x2.length - 0) cap00 (Rp.size T_session_Top))), (1, VP.of (k : Int)), (2, VP.eq (slv (some q) x2.length cap02)), (7, VP.of (x2.length : Int))]) (.same rfl (.same rfl (.same rfl (.same rfl .nil)))) ?_
    refine Wp.drawD mixed (⟨some 69, [], [], [], fun _ => VP.eq (vslv (some p) 0 (x0.length + x2.length - 0) cap00 (Rp.size T_session_Top)), fun _ _ => ⟨none, .dead⟩⟩ :: ⟨some 70, [], [], [], fun _ => VP.of (k : Int), fun _ _ => ⟨none, .dead⟩⟩ :: ⟨some 71, [], [], [], fun _ => VP.of (x2.length : Int), fun _ _ => ⟨none, .dead⟩⟩ :: ⟨some 72, (1 :: 2 :: []), [], [], fun _ => VP.of (w64 ((k : Int) + (x2.length : Int))), fun _ _ => ⟨none, .dead⟩⟩ :: ⟨some 73, (0 :: 3 :: []), [], [], fun _ => VP.eq (vslv (some p) (k + x2.length) (x0.length + x2.length - (k + x2.length)) cap00 (Rp.size T_session_Top)), fun _ _ => ⟨none, .dead⟩⟩ :: ⟨some 74, [], [], [], fun _ => VP.eq (vslv (some p) 0 (x0.length + x2.length - 0) cap00 (Rp.size T_session_Top)), fun _ _ => ⟨none, .dead⟩⟩ :: ⟨some 75, [], [], [], fun _ => VP.of (k : Int), fun _ _ => ⟨none, .dead⟩⟩ :: ⟨some 76, (5 :: 6 :: []), [], [], fun _ => VP.eq (vslv (some p) k (x0.length + x2.length - k) cap00 (Rp.size T_session_Top)), fun _ _ => ⟨none, .dead⟩⟩ :: ⟨some 77, (4 :: 7 :: []), (0 :: []), (0 :: []), fun _ => VP.of ((((x0.drop k).take (x0.length - k)).length : Nat) : Int), fun _ _ => ⟨some p, .gap 67 x0 k x2.length cap00⟩⟩ :: []) ((some 69, [], [], []) :: (some 70, [], [], []) :: (some 71, [], [], []) :: (some 72, (1 :: 2 :: []), [], []) :: (some 73, (0 :: 3 :: []), [], []) :: (some 74, [], [], []) :: (some 75, [], [], []) :: (some 76, (5 :: 6 :: []), [], []) :: (some 77, (4 :: 7 :: []), (0 :: []), (0 :: [])) :: []) (0 :: 1 :: 2 :: 7 :: []) rfl rfl (by kernel_rfl) ⟨?_, ?_, ?_, ?_, ?_, ?_, ?_, ?_, ?_, trivial⟩ fun hd => ?_
    · exact hd_v rfl rfl rfl fun hd E' L' hE hL => r_move (look_t (hE _ _ rfl))
    · exact hd_v rfl rfl rfl fun hd E' L' hE hL => r_move (look_t (hE _ _ rfl))
    · exact hd_v rfl rfl rfl fun hd E' L' hE hL => r_move (look_t (hE _ _ rfl))
    · exact hd_v rfl rfl rfl fun hd E' L' hE hL => r_add (look_t (hE _ _ rfl)) (look_t (hE _ _ rfl))
    · exact hd_v rfl rfl rfl fun hd E' L' hE hL => r_sliceE (α := T_session_Top) (n := x0.length + x2.length) (m := k + x2.length) (h := x0.length + x2.length) Try.underlying38 ty67 (look_z (size := Rp.size T_session_Top) (look_t (hE _ _ rfl))) (.some (look_t (hE _ _ rfl))) .none hw2 rfl ⟨by omega, by omega⟩
    · exact hd_v rfl rfl rfl fun hd E' L' hE hL => r_move (look_t (hE _ _ rfl))
    · exact hd_v rfl rfl rfl fun hd E' L' hE hL => r_move (look_t (hE _ _ rfl))
    · exact hd_v rfl rfl rfl fun hd E' L' hE hL => r_sliceE (α := T_session_Top) (n := x0.length + x2.length) (m := k) (h := x0.length + x2.length) Try.underlying38 ty67 (look_z (size := Rp.size T_session_Top) (look_t (hE _ _ rfl))) (.some (look_t (hE _ _ rfl))) .none rfl rfl ⟨by omega, by omega⟩
    · intro hd E' L' hE hL
      have h0 := hL 0 _ rfl rfl
      refine Sq.copyG (i := 0) (p := p) (off := (k + x2.length) * Rp.size T_session_Top) (T := 67) (vs := (x0.drop k).take (x0.length - k)) (N := x0.length + x2.length - k) (dLen := x0.length + x2.length - (k + x2.length)) (dCap := cap00 - (k + x2.length)) (cp' := .gap 67 x0 k x2.length cap00) Try.underlying38 ty67 (look_a (p := p) (lo := k + x2.length) (cap := cap00) (size := Rp.size T_session_Top) (by omega) (look_t (hE _ _ rfl))) (src_own (i := 0) (look_t (hE _ _ rfl)) h0 (by omega) (by omega)) (by rw [hdt]; rw [show (x0.drop k).length = x0.length + x2.length - (k + x2.length) by simp; omega]; exact Nat.min_eq_right (by omega)) h0 rfl (fun A W o cells h h' => gap_new hk hroom h (by rw [← hdt]; exact h')) ?_
      refine Sq.nil ?_
      exact To.fin (gm []) rfl rfl
    refine To.eqL (L2 := [⟨some p, .gap 67 x0 k x2.length cap00⟩, ⟨some q, .row 67 x2 cap02⟩]) rfl ?_
    refine To.le (E' := [(0, VP.eq (vslv (some p) 0 (x0.length + x2.length - 0) cap00 (Rp.size T_session_Top))), (1, VP.of (k : Int)), (2, VP.eq (slv (some q) x2.length cap02))]) (.same rfl (.same rfl (.same rfl .nil))) ?_
    refine To.next ?_
    refine Wp.seq ?_
    refine Wp.reg ?_
    refine Sq.v (r_move (look_t rfl)) rfl rfl rfl ?_
    refine Sq.v (r_move (look_t rfl)) rfl rfl rfl ?_
    refine Sq.v (r_sliceE (α := T_session_Top) (n := x0.length + x2.length) (m := k) (h := x0.length + x2.length) Try.underlying38 ty67 (look_z (size := Rp.size T_session_Top) (look_t rfl)) (.some (look_t rfl)) .none rfl rfl ⟨by omega, by omega⟩) rfl rfl rfl ?_
    refine Sq.v (r_move (look_t rfl)) rfl rfl rfl ?_
    refine Sq.copyG (i := 0) (p := p) (off := k * Rp.size T_session_Top) (dLen := x0.length + x2.length - k) (dCap := cap00 - k) (N := x2.length) (vs := x2) (T := 67) (cp' := .row 67 (x0.take k ++ x2 ++ x0.drop k) cap00) Try.underlying38 ty67 (look_a (p := p) (lo := k) (cap := cap00) (size := Rp.size T_session_Top) (by omega) (look_t rfl)) (src_row (i := 1) (look_t rfl) rfl hv) (Nat.min_eq_left (by omega)) rfl rfl (fun A W o cells h h' => gap_fill hk h h') ?_
    refine Sq.nil ?_
    refine To.next ?_
    refine Wp.seq ?_
    refine Wp.reg ?_
    refine Sq.v (r_move (look_t rfl)) rfl rfl rfl ?_
    refine Sq.v (r_asg (look_t rfl)) rfl rfl rfl ?_
    refine Sq.nil ?_
    refine To.next ?_
    refine Wp.ret ?_
    have e3 : x0.length + x2.length - 0 = (x0.take k ++ x2 ++ x0.drop k).length := by simp; omega
    rw [vslv_zero, e3]
    exact To.endO1 (some p, cap00) (.cons_cons _ (List.nil_sublist _)) rfl rfl (rvo_t rfl)
set_option maxHeartbeats 2000000 in
theorem C_session_Arbitrate_fn3 {x0 : T_session_Top}  {r : Int} (h : L_session_Arbitrate_fn3 x0 = some r) : Meets Try.prog 71 [VP.of (x0)] (VP.of (r)) := by
  unfold L_session_Arbitrate_fn3 at h
  refine Meets.of Try.func71 rfl Try.ntmps71 rfl fun W A => ?_
  refine Wp.seq ?_
  refine Wp.reg ?_
  refine Sq.box (z := (x0 : T_session_Top)) (look_t rfl) rfl fun p1 => ?_
  refine Sq.v (r_asg (look_int 0)) rfl rfl rfl ?_
  refine Sq.nil ?_
  refine To.next ?_
  refine Wp.seq ?_
  refine Wp.reg ?_
  refine Sq.v (r_fa fd67_0 (look_t rfl)) rfl rfl rfl ?_
  refine Sq.v (r_load (i := 0) ((Lens.id T_session_Top).comp le_T_session_Top_Role) (r := x0.f_Role) ty3 (look_t rfl) rfl rfl rfl) rfl rfl rfl ?_
  refine Sq.v (r_asg (look_t rfl)) rfl rfl rfl ?_
  refine Sq.nil ?_
  refine To.next ?_
  refine Wp.ret ?_
  replace h := some_in h
  subst h
  exact To.end1 rfl (rv_t rfl)
set_option maxHeartbeats 2000000 in
theorem C_law20_mirror {x0 : T_session_State}  {r : T_ref20_State} (h : L_law20_mirror x0 = some r) : Meets Try.prog 24 [VP.of (x0)] (VP.of (r)) := by
  unfold L_law20_mirror at h
  refine Meets.of Try.func24 rfl Try.ntmps24 rfl fun W A => ?_
  refine Wp.seq ?_
  refine Wp.reg ?_
  refine Sq.box (z := (x0 : T_session_State)) (look_t rfl) rfl fun p1 => ?_
  refine Sq.alloc zr44 rfl fun p2 => ?_
  refine Sq.nil ?_
  refine To.next ?_
  refine Wp.seq ?_
  refine Wp.reg ?_
  refine Sq.allocX (z := (default : T_ref20_State)) [0, 1] zh44_0_1 zr44 rfl fun p3 => ?_
  refine Sq.own (α := T_ref20_Session) 145 ?_
  refine Sq.own (α := T_ref20_Top) 159 ?_
  refine Sq.nil ?_
  refine To.next ?_
  refine Wp.seq ?_
  refine Wp.seq ?_
  refine Wp.reg ?_
  refine Sq.v (r_fa fd40_0 (look_t rfl)) rfl rfl rfl ?_
  refine Sq.v (r_load (i := 4) ((Lens.id T_session_State).comp le_T_session_State_Sessions) (r := x0.f_Sessions) ty37 (look_t rfl) rfl rfl rfl) rfl rfl rfl ?_
  refine Sq.v (r_len Try.underlying37 (look_t rfl)) rfl rfl rfl ?_
  refine Sq.v (r_move (look_int 0)) rfl rfl rfl ?_
  refine Sq.nil ?_
  refine To.next ?_
  refine Wp.block ?_
  obtain ⟨e1, hl, h⟩ := bind_some h
  refine Wp.loopG (σ := Int × (List T_ref20_Session) × T_ref20_State) (ε := (Int × Bool × (List T_ref20_Session) × T_ref20_State)) (γ := (Option Nat × Nat)) (δ := (Option Nat × Nat)) hl (fun s1 g1 => [(0, VP.of (x0)), (1, VP.eq (.pointer (some ⟨p1, 0, none⟩))), (2, VP.eq (.pointer (some ⟨p2, 0, none⟩))), (3, VP.eq (.pointer (some ⟨p3, 0, none⟩))), (9, VP.of (x0.f_Sessions)), (10, VP.of (x0.f_Sessions.length : Int)), (11, VP.of (s1.1))]) (fun s1 g1 => [⟨none, .row 159 (([] : List T_ref20_Top) : List T_ref20_Top) 0⟩, ⟨g1.1, .row 145 (s1.2.1 : List T_ref20_Session) g1.2⟩, ⟨some p3, .varX (s1.2.2 : T_ref20_State) [(0, slv g1.1 s1.2.1.length g1.2), (1, slv none ([] : List T_ref20_Top).length 0)]⟩, ⟨some p2, .var ((default : T_ref20_State) : T_ref20_State)⟩, ⟨some p1, .var (x0 : T_session_State)⟩]) (fun q1 => Exit.exit 0) (fun q1 g1 => [(0, VP.of (x0)), (1, VP.eq (.pointer (some ⟨p1, 0, none⟩))), (2, VP.eq (.pointer (some ⟨p2, 0, none⟩))), (3, VP.eq (.pointer (some ⟨p3, 0, none⟩))), (9, VP.of (x0.f_Sessions)), (10, VP.of (x0.f_Sessions.length : Int)), (11, VP.of (q1.1)), (12, VP.of (q1.2.1))]) (fun q1 g1 => [⟨none, .row 159 (([] : List T_ref20_Top) : List T_ref20_Top) 0⟩, ⟨g1.1, .row 145 (q1.2.2.1 : List T_ref20_Session) g1.2⟩, ⟨some p3, .varX (q1.2.2.2 : T_ref20_State) [(0, slv g1.1 q1.2.2.1.length g1.2), (1, slv none ([] : List T_ref20_Top).length 0)]⟩, ⟨some p2, .var ((default : T_ref20_State) : T_ref20_State)⟩, ⟨some p1, .var (x0 : T_session_State)⟩]) (none, 0) rfl (.same rfl (.same rfl (.same rfl (.same rfl (.same rfl (.same rfl (.same rfl .nil))))))) (fun s1 r h g1 => ?_) (fun g1 => ?_)
  · clear hl
    refine Wp.seq ?_
    refine Wp.reg ?_
    refine Sq.v (r_lss (look_t rfl) (look_t rfl)) rfl rfl rfl ?_
    refine Sq.nil ?_
    refine To.next ?_
    refine Wp.seq ?_
    refine Wp.cond (look_t rfl) (fun hc => ?_) (fun hc => ?_)
    · replace h := cond_t hc h
      refine Wp.skip ?_
      refine To.next ?_
      refine Wp.seq ?_
      refine Wp.block ?_
      refine Wp.seq ?_
      refine Wp.reg ?_
      obtain ⟨k1, hk1, h⟩ := bind_some h
      refine Sq.v (r_ias (k := k1) Try.underlying37 ty138 (look_t rfl) (look_t rfl) (idx_some hk1)) rfl rfl rfl ?_
      refine Sq.v (r_loadp ty138 (look_t rfl)) rfl rfl rfl ?_
      refine Sq.alloc zr138 rfl fun p4 => ?_
      refine Sq.store (i := 0) (Lens.id T_session_Session) (v := (lget x0.f_Sessions k1 : T_session_Session)) (b' := (lget x0.f_Sessions k1 : T_session_Session)) ty138 (look_t rfl) (look_t rfl) rfl rfl rfl ?_
      refine Sq.nil ?_
      refine To.next ?_
      refine Wp.reg ?_
      refine Sq.v (r_fa fd44_0 (look_t rfl)) rfl rfl rfl ?_
      refine Sq.v (r_loadH (i := 3) (q := 0) (β := T_ref20_State) (γ := T_ref20_Session) ty41 (look_t rfl) rfl rfl) rfl rfl rfl ?_
      refine Sq.v (r_fa fd138_0 (look_t rfl)) rfl rfl rfl ?_
      refine Sq.v (r_load (i := 0) ((Lens.id T_session_Session).comp le_T_session_Session_Controller) (r := (lget x0.f_Sessions k1).f_Controller) ty3 (look_t rfl) rfl rfl rfl) rfl rfl rfl ?_
      refine Sq.v (r_fa fd138_1 (look_t rfl)) rfl rfl rfl ?_
      refine Sq.v (r_load (i := 0) ((Lens.id T_session_Session).comp le_T_session_Session_Role) (r := (lget x0.f_Sessions k1).f_Role) ty3 (look_t rfl) rfl rfl rfl) rfl rfl rfl ?_
      refine Sq.v (r_fa fd138_2 (look_t rfl)) rfl rfl rfl ?_
      refine Sq.v (r_load (i := 0) ((Lens.id T_session_Session).comp le_T_session_Session_Election) (r := (lget x0.f_Sessions k1).f_Election) ty47 (look_t rfl) rfl rfl rfl) rfl rfl rfl ?_
      obtain ⟨z1, hz1, h⟩ := bind_some h
      refine Sq.v ((r_build (b := { f_Controller := (lget x0.f_Sessions k1).f_Controller, f_Role := (lget x0.f_Sessions k1).f_Role, f_Election := (lget x0.f_Sessions k1).f_Election : T_ref20_Session }) rfl bu145 zr145 (.cons le_T_ref20_Session_Controller rfl (look_t rfl) rfl (.cons le_T_ref20_Session_Role rfl (look_t rfl) rfl (.cons le_T_ref20_Session_Election rfl (look_t rfl) rfl (.nil))))).as (some_in hz1)) rfl rfl rfl ?_
      refine Sq.v (r_bsl (r := [z1]) Try.underlying41 ty145 zr145 rfl rfl (.cons (by simp) (look_t rfl) (.nil))) rfl rfl rfl ?_
      obtain ⟨y1, hy1, h⟩ := bind_some h
      refine Sq.app (i := 2) Try.underlying41 ty145 zr145 (bytes := 32) (by kernel_rfl) (look_t rfl) rfl (look_t rfl) hy1 rfl fun key1 cap1 => ?_
      refine Sq.v (r_fa fd44_0 (look_t rfl)) rfl rfl rfl ?_
      refine Sq.storeH (i := 3) (γ := T_ref20_Session) (b' := (({ s1.2.2 with f_Sessions := [] } : T_ref20_State) : T_ref20_State)) (os' := [(0, slv key1 y1.length cap1), (1, slv none ([] : List T_ref20_Top).length 0)]) ((Lens.id T_ref20_State).comp le_T_ref20_State_Sessions) ty41 (look_t rfl) (look_t rfl) slv_one rfl rfl rfl rfl ?_
      refine Sq.nil ?_
      refine To.bnorm ?_
      refine To.next ?_
      refine Wp.reg ?_
      refine Sq.v (r_add (look_t rfl) (look_int 1)) rfl rfl rfl ?_
      refine Sq.v (r_move (look_t rfl)) rfl rfl rfl ?_
      refine Sq.nil ?_
      replace h := some_in h
      subst h
      exact To.roundG (key1, cap1) 1 rfl (.same rfl (.same rfl (.same rfl (.same rfl (.same rfl (.same rfl (.same rfl .nil)))))))
    · replace h := cond_f hc h
      refine Wp.exit ?_
      refine To.exit ?_
      replace h := some_in h
      subst h
      exact To.leaveG (g1.1, g1.2) 0 rfl (by simp) rfl (.same rfl (.same rfl (.same rfl (.same rfl (.same rfl (.same rfl (.same rfl (.same rfl .nil))))))))
  · clear hl
    refine To.bexit ?_
    refine To.next ?_
    refine Wp.seq ?_
    refine Wp.seq ?_
    refine Wp.reg ?_
    refine Sq.v (r_fa fd40_1 (look_t rfl)) rfl rfl rfl ?_
    refine Sq.v (r_load (i := 4) ((Lens.id T_session_State).comp le_T_session_State_Tops) (r := x0.f_Tops) ty38 (look_t rfl) rfl rfl rfl) rfl rfl rfl ?_
    refine Sq.v (r_len Try.underlying38 (look_t rfl)) rfl rfl rfl ?_
    refine Sq.v (r_move (look_int 0)) rfl rfl rfl ?_
    refine Sq.nil ?_
    refine To.next ?_
    refine Wp.block ?_
    obtain ⟨e2, hl, h⟩ := bind_some h
    refine Wp.loopG (σ := Int × (List T_ref20_Top) × T_ref20_State) (ε := (Int × Bool × (List T_ref20_Top) × T_ref20_State)) (γ := (Option Nat × Nat)) (δ := (Option Nat × Nat)) hl (fun s2 g2 => [(0, VP.of (x0)), (1, VP.eq (.pointer (some ⟨p1, 0, none⟩))), (2, VP.eq (.pointer (some ⟨p2, 0, none⟩))), (3, VP.eq (.pointer (some ⟨p3, 0, none⟩))), (9, VP.of (x0.f_Sessions)), (10, VP.of (x0.f_Sessions.length : Int)), (11, VP.of (e1.1)), (12, VP.of (e1.2.1)), (29, VP.of (x0.f_Tops)), (30, VP.of (x0.f_Tops.length : Int)), (31, VP.of (s2.1))]) (fun s2 g2 => [⟨g2.1, .row 159 (s2.2.1 : List T_ref20_Top) g2.2⟩, ⟨g1.1, .row 145 (e1.2.2.1 : List T_ref20_Session) g1.2⟩, ⟨some p3, .varX (s2.2.2 : T_ref20_State) [(0, slv g1.1 e1.2.2.1.length g1.2), (1, slv g2.1 s2.2.1.length g2.2)]⟩, ⟨some p2, .var ((default : T_ref20_State) : T_ref20_State)⟩, ⟨some p1, .var (x0 : T_session_State)⟩]) (fun q2 => Exit.exit 2) (fun q2 g2 => [(0, VP.of (x0)), (1, VP.eq (.pointer (some ⟨p1, 0, none⟩))), (2, VP.eq (.pointer (some ⟨p2, 0, none⟩))), (3, VP.eq (.pointer (some ⟨p3, 0, none⟩))), (9, VP.of (x0.f_Sessions)), (10, VP.of (x0.f_Sessions.length : Int)), (11, VP.of (e1.1)), (12, VP.of (e1.2.1)), (29, VP.of (x0.f_Tops)), (30, VP.of (x0.f_Tops.length : Int)), (31, VP.of (q2.1)), (32, VP.of (q2.2.1))]) (fun q2 g2 => [⟨g2.1, .row 159 (q2.2.2.1 : List T_ref20_Top) g2.2⟩, ⟨g1.1, .row 145 (e1.2.2.1 : List T_ref20_Session) g1.2⟩, ⟨some p3, .varX (q2.2.2.2 : T_ref20_State) [(0, slv g1.1 e1.2.2.1.length g1.2), (1, slv g2.1 q2.2.2.1.length g2.2)]⟩, ⟨some p2, .var ((default : T_ref20_State) : T_ref20_State)⟩, ⟨some p1, .var (x0 : T_session_State)⟩]) (none, 0) rfl (.same rfl (.same rfl (.same rfl (.same rfl (.same rfl (.same rfl (.same rfl (.same rfl (.same rfl (.same rfl (.same rfl .nil))))))))))) (fun s2 r h g2 => ?_) (fun g2 => ?_)
    · clear hl
      refine Wp.seq ?_
      refine Wp.reg ?_
      refine Sq.v (r_lss (look_t rfl) (look_t rfl)) rfl rfl rfl ?_
      refine Sq.nil ?_
      refine To.next ?_
      refine Wp.seq ?_
      refine Wp.cond (look_t rfl) (fun hc => ?_) (fun hc => ?_)
      · replace h := cond_t hc h
        refine Wp.skip ?_
        refine To.next ?_
        refine Wp.seq ?_
        refine Wp.block ?_
        refine Wp.seq ?_
        refine Wp.reg ?_
        obtain ⟨k2, hk2, h⟩ := bind_some h
        refine Sq.v (r_ias (k := k2) Try.underlying38 ty67 (look_t rfl) (look_t rfl) (idx_some hk2)) rfl rfl rfl ?_
        refine Sq.v (r_loadp ty67 (look_t rfl)) rfl rfl rfl ?_
        refine Sq.alloc zr67 rfl fun p5 => ?_
        refine Sq.store (i := 0) (Lens.id T_session_Top) (v := (lget x0.f_Tops k2 : T_session_Top)) (b' := (lget x0.f_Tops k2 : T_session_Top)) ty67 (look_t rfl) (look_t rfl) rfl rfl rfl ?_
        refine Sq.nil ?_
        refine To.next ?_
        refine Wp.reg ?_
        refine Sq.v (r_fa fd44_1 (look_t rfl)) rfl rfl rfl ?_
        refine Sq.v (r_loadH (i := 3) (q := 1) (β := T_ref20_State) (γ := T_ref20_Top) ty42 (look_t rfl) rfl rfl) rfl rfl rfl ?_
        refine Sq.v (r_fa fd67_0 (look_t rfl)) rfl rfl rfl ?_
        refine Sq.v (r_load (i := 0) ((Lens.id T_session_Top).comp le_T_session_Top_Role) (r := (lget x0.f_Tops k2).f_Role) ty3 (look_t rfl) rfl rfl rfl) rfl rfl rfl ?_
        refine Sq.v (r_fa fd67_1 (look_t rfl)) rfl rfl rfl ?_
        refine Sq.v (r_load (i := 0) ((Lens.id T_session_Top).comp le_T_session_Top_Election) (r := (lget x0.f_Tops k2).f_Election) ty47 (look_t rfl) rfl rfl rfl) rfl rfl rfl ?_
        obtain ⟨z2, hz2, h⟩ := bind_some h
        refine Sq.v ((r_build (b := { f_Role := (lget x0.f_Tops k2).f_Role, f_Election := (lget x0.f_Tops k2).f_Election : T_ref20_Top }) rfl bu159 zr159 (.cons le_T_ref20_Top_Role rfl (look_t rfl) rfl (.cons le_T_ref20_Top_Election rfl (look_t rfl) rfl (.nil)))).as (some_in hz2)) rfl rfl rfl ?_
        refine Sq.v (r_bsl (r := [z2]) Try.underlying42 ty159 zr159 rfl rfl (.cons (by simp) (look_t rfl) (.nil))) rfl rfl rfl ?_
        obtain ⟨y2, hy2, h⟩ := bind_some h
        refine Sq.app (i := 1) Try.underlying42 ty159 zr159 (bytes := 24) (by kernel_rfl) (look_t rfl) rfl (look_t rfl) hy2 rfl fun key2 cap2 => ?_
        refine Sq.v (r_fa fd44_1 (look_t rfl)) rfl rfl rfl ?_
        refine Sq.storeH (i := 3) (γ := T_ref20_Top) (b' := (({ s2.2.2 with f_Tops := [] } : T_ref20_State) : T_ref20_State)) (os' := [(0, slv g1.1 e1.2.2.1.length g1.2), (1, slv key2 y2.length cap2)]) ((Lens.id T_ref20_State).comp le_T_ref20_State_Tops) ty42 (look_t rfl) (look_t rfl) slv_one rfl rfl rfl rfl ?_
        refine Sq.nil ?_
        refine To.bnorm ?_
        refine To.next ?_
        refine Wp.reg ?_
        refine Sq.v (r_add (look_t rfl) (look_int 1)) rfl rfl rfl ?_
        refine Sq.v (r_move (look_t rfl)) rfl rfl rfl ?_
        refine Sq.nil ?_
        replace h := some_in h
        subst h
        exact To.roundG (key2, cap2) 1 rfl (.same rfl (.same rfl (.same rfl (.same rfl (.same rfl (.same rfl (.same rfl (.same rfl (.same rfl (.same rfl (.same rfl .nil)))))))))))
      · replace h := cond_f hc h
        refine Wp.exit ?_
        refine To.exit ?_
        replace h := some_in h
        subst h
        exact To.leaveG (g2.1, g2.2) 0 rfl (by simp) rfl (.same rfl (.same rfl (.same rfl (.same rfl (.same rfl (.same rfl (.same rfl (.same rfl (.same rfl (.same rfl (.same rfl (.same rfl .nil))))))))))))
    · clear hl
      refine To.bexit ?_
      refine To.next ?_
      refine Wp.seq ?_
      refine Wp.reg ?_
      refine Sq.thaw (β := T_ref20_State) (γ := T_ref20_Session) (b' := (({ e2.2.2.2 with f_Sessions := e1.2.2.1 } : T_ref20_State) : T_ref20_State)) ((Lens.id T_ref20_State).comp le_T_ref20_State_Sessions) 2 1 0 rfl rfl rfl rfl rfl rfl ?_
      refine Sq.thaw (β := T_ref20_State) (γ := T_ref20_Top) (b' := (({ ({ e2.2.2.2 with f_Sessions := e1.2.2.1 } : T_ref20_State) with f_Tops := e2.2.2.1 } : T_ref20_State) : T_ref20_State)) ((Lens.id T_ref20_State).comp le_T_ref20_State_Tops) 2 0 0 rfl rfl rfl rfl rfl rfl ?_
      refine Sq.fromX 2 rfl ?_
      obtain ⟨z3, hz3, h⟩ := bind_some h
      refine Sq.v ((r_load (i := 2) (Lens.id T_ref20_State) (r := ({ ({ e2.2.2.2 with f_Sessions := e1.2.2.1 } : T_ref20_State) with f_Tops := e2.2.2.1 } : T_ref20_State)) ty44 (look_t rfl) rfl rfl rfl).as (some_in hz3)) rfl rfl rfl ?_
      refine Sq.store (i := 3) (Lens.id T_ref20_State) (v := (z3 : T_ref20_State)) (b' := (z3 : T_ref20_State)) ty44 (look_t rfl) (look_t rfl) rfl rfl rfl ?_
      refine Sq.nil ?_
      refine To.next ?_
      refine Wp.ret ?_
      replace h := some_in h
      subst h
      exact To.end1 rfl (rv_c (i := 3) ty44 rfl rfl)
end Go.Proofs.Ytodajdohokmjnaa
