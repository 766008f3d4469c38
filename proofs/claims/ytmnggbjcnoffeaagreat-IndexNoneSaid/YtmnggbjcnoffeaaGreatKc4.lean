/-
  Each function meets its functional program. Conditions: none.
-/
import Derived.Test.YtmnggbjcnoffeaaGreatKd
import Derived.Test.YtmnggbjcnoffeaaGreatKc0
import Derived.Test.YtmnggbjcnoffeaaGreatKc3
import Derived.Test.YtmnggbjcnoffeaaGreatKc2
namespace Go.Proofs.YtmnggbjcnoffeaaGreat
open Go Gv
set_option linter.unusedVariables false
set_option linter.unusedSimpArgs false
set_option maxRecDepth 100000
set_option maxHeartbeats 2000000
theorem Cop0_2_slices_Insert_api_Installed {x0 x2 : List T_api_Installed} {x1 : Int} {key00 key02 : Option Nat} {cap00 cap02 : Nat} {r : List T_api_Installed} (h : Lp0_2_slices_Insert_api_Installed x0 x1 x2 = some r) : MeetsO Tryz.prog 275 [VP.eq (slv key00 x0.length cap00), VP.of x1, VP.eq (slv key02 x2.length cap02)] [⟨key00, .row 52 x0 cap00⟩, ⟨key02, .row 52 x2 cap02⟩] (δ := (Option Nat × Nat)) (fun d => VP.eq (slv d.1 r.length d.2)) (fun d => [⟨d.1, .row 52 r d.2⟩]) := by
  unfold Lp0_2_slices_Insert_api_Installed at h
  obtain ⟨k, rfl, hk, hv, hb1, hb2, rfl⟩ := insM_some h
  refine MeetsO.of Tryz.func275 rfl Tryz.ntmps275 rfl fun W A => ?_
  refine Wp.seq ?_
  refine Wp.reg ?_
  refine Sq.v (r_asg look_own) rfl rfl rfl ?_
  refine Sq.nil ?_
  refine To.next ?_
  refine Wp.seq ?_
  refine Wp.reg ?_
  refine Sq.v (r_move (look_t rfl)) rfl rfl rfl ?_
  refine Sq.v (r_move (look_t rfl)) rfl rfl rfl ?_
  refine Sq.v (r_sliceO (i := 0) (xs := x0) Tryz.underlying38 ty52 (look_t rfl) rfl (.some (look_t rfl)) .none rfl rfl ⟨hk, Nat.le_refl _⟩) rfl rfl rfl ?_
  refine Sq.nil ?_
  refine To.next ?_
  refine Wp.seq ?_
  refine Wp.reg ?_
  refine Sq.v (r_move (look_t rfl)) rfl rfl rfl ?_
  refine Sq.v (r_lenO (i := 1) (xs := x2) Tryz.underlying38 (look_t rfl) rfl rfl) rfl rfl rfl ?_
  refine Sq.v (r_asg (look_t rfl)) rfl rfl rfl ?_
  refine Sq.nil ?_
  refine To.next ?_
  refine Wp.seq ?_
  refine Wp.seq ?_
  refine Wp.reg ?_
  refine Sq.v (r_move (look_t rfl)) rfl rfl rfl ?_
  refine Sq.v (r_eql (look_t rfl) (look_int 0)) rfl rfl rfl ?_
  refine Sq.nil ?_
  refine To.next ?_
  refine Wp.cond (look_t rfl) (fun hc => ?_) (fun _ => ?_)
  · exfalso; simp only [beq_iff_eq] at hc; omega
  refine Wp.skip ?_
  refine To.next ?_
  refine Wp.seq ?_
  refine Wp.reg ?_
  refine Sq.v (r_move (look_t rfl)) rfl rfl rfl ?_
  refine Sq.v (r_lenO (i := 0) (xs := x0) Tryz.underlying38 (look_t rfl) rfl rfl) rfl rfl rfl ?_
  refine Sq.v (r_asg (look_t rfl)) rfl rfl rfl ?_
  refine Sq.nil ?_
  refine To.next ?_
  refine Wp.seq ?_
  refine Wp.seq ?_
  refine Wp.reg ?_
  refine Sq.v (r_move (look_t rfl)) rfl rfl rfl ?_
  refine Sq.v (r_move (look_t rfl)) rfl rfl rfl ?_
  refine Sq.v (r_eql (look_t rfl) (look_t rfl)) rfl rfl rfl ?_
  refine Sq.nil ?_
  refine To.next ?_
  refine Wp.cond (look_t rfl) (fun hc => ?_) (fun hc => ?_)
  · have hkn : k = x0.length := by simp only [beq_iff_eq] at hc; omega
    subst hkn
    refine Wp.seq ?_
    refine Wp.reg ?_
    refine Sq.v (r_move (look_t rfl)) rfl rfl rfl ?_
    refine Sq.freezeL (α := T_api_Installed) 1 [2, 13] ⟨rfl, rfl, trivial⟩ rfl ?_
    refine Sq.v (r_move (look_t rfl)) rfl rfl rfl ?_
    refine Sq.app (i := 0) (xs := x0) (ys := x2) (r := x0 ++ x2) Tryz.underlying38 ty52 zr52 (by kernel_rfl) (look_t rfl) rfl (look_t rfl) (by unfold appM; rw [if_pos ⟨hb1, hb2⟩]) rfl fun key1 cap1 => ?_
    refine Sq.v (r_asg (look_t rfl)) rfl rfl rfl ?_
    refine Sq.nil ?_
    refine To.next ?_
    refine Wp.ret ?_
    have hr : x0.take x0.length ++ x2 ++ x0.drop x0.length = x0 ++ x2 := by simp
    rw [hr]
    exact To.endO1 (key1, cap1) (.cons_cons _ (List.nil_sublist _)) rfl rfl (rvo_t rfl)
  have hkn : k < x0.length := by simp only [beq_eq_false_iff_ne] at hc; omega
  refine Wp.skip ?_
  refine To.next ?_
  refine Wp.some (i := 0) (xs := x0) rfl (by omega) fun p hp hcap hcm => ?_
  subst hp
  refine Wp.some (i := 1) (xs := x2) rfl (by omega) fun q hq hcap2 hcm2 => ?_
  subst hq
  refine Wp.apart rfl fun hpq => ?_
  refine Wp.seq ?_
  refine Wp.seq ?_
  refine Wp.reg ?_
  refine Sq.v (r_move (look_t rfl)) rfl rfl rfl ?_
  refine Sq.v (r_move (look_t rfl)) rfl rfl rfl ?_
  refine Sq.v (r_add (look_t rfl) (look_t rfl)) rfl rfl rfl ?_
  refine Sq.v (r_move (look_t rfl)) rfl rfl rfl ?_
  refine Sq.v (r_capO Tryz.underlying38 (look_t rfl)) rfl rfl rfl ?_
  refine Sq.v (r_gtr (look_t rfl) (look_t rfl)) rfl rfl rfl ?_
  refine Sq.nil ?_
  refine To.next ?_
  have hw : w64 ((x0.length : Int) + (x2.length : Int)) = ((x0.length + x2.length : Nat) : Int) := by
    have hml : maxLen = 9223372036854775807 := rfl
    rw [w64_in (by omega) (by omega)]; simp
  refine Wp.cond (look_t rfl) (fun hc2 => ?_) (fun hc2 => ?_)
  · have hroom : cap00 < x0.length + x2.length := by rw [hw] at hc2; simp only [decide_eq_true_eq] at hc2; omega
    have hml : maxLen = 9223372036854775807 := rfl
    have hj : w64 (w64 ((x0.length : Int) + (x2.length : Int)) - (k : Int)) = ((x0.length + x2.length - k : Nat) : Int) := by
      rw [hw, w64_in (by omega) (by omega)]; omega
    refine Wp.seq ?_
    refine Wp.reg ?_
    refine Sq.v (r_move (look_t rfl)) rfl rfl rfl ?_
    refine Sq.v (r_move (look_t rfl)) rfl rfl rfl ?_
    refine Sq.v (r_sliceO (i := 0) (xs := x0) Tryz.underlying38 ty52 (look_t rfl) rfl .none (.some (look_t rfl)) rfl rfl ⟨Nat.zero_le _, hk⟩) rfl rfl rfl ?_
    refine Sq.v (r_move (look_t rfl)) rfl rfl rfl ?_
    refine Sq.v (r_move (look_t rfl)) rfl rfl rfl ?_
    refine Sq.v (r_add (look_t rfl) (look_t rfl)) rfl rfl rfl ?_
    refine Sq.v (r_move (look_t rfl)) rfl rfl rfl ?_
    refine Sq.v (r_sub (look_t rfl) (look_t rfl)) rfl rfl rfl ?_
    refine Sq.appZ (i := 0) (m := k) (k := x0.length + x2.length - k) (xs := x0) (z := (default : T_api_Installed)) Tryz.underlying38 Tryz.underlying3 ty52 zr52 (by rfl) (by kernel_rfl) (look_t rfl) (by rw [← hj]; exact look_t rfl) rfl hk (by omega) (by omega) (by rw [show k + (x0.length + x2.length - k) = x0.length + x2.length by omega]; exact hb1) (by omega) rfl fun q1 cap1 => ?_
    refine Sq.v (r_asg (look_t rfl)) rfl rfl rfl ?_
    refine Sq.nil ?_
    refine To.next ?_
    have hlen : (x0.take k ++ List.replicate (x0.length + x2.length - k) (default : T_api_Installed)).length = x0.length + x2.length := by simp; omega
    refine Wp.some (i := 0) (xs := x0.take k ++ List.replicate (x0.length + x2.length - k) (default : T_api_Installed)) rfl (by omega) fun q2 hq2 hcapN hcmN => ?_
    rw [hlen] at hcapN
    refine Wp.seq ?_
    refine Wp.reg ?_
    refine Sq.v (r_move (look_t rfl)) rfl rfl rfl ?_
    refine Sq.v (r_move (look_t rfl)) rfl rfl rfl ?_
    refine Sq.v (r_sliceE (α := T_api_Installed) (m := k) (h := k + (x0.length + x2.length - k)) Tryz.underlying38 ty52 (look_t rfl) (.some (look_t rfl)) .none rfl rfl ⟨by omega, by omega⟩) rfl rfl rfl ?_
    refine Sq.v (r_move (look_t rfl)) rfl rfl rfl ?_
    refine Sq.copyG (i := 0) (p := q1) (off := k * Rp.size T_api_Installed) (dLen := k + (x0.length + x2.length - k) - k) (dCap := cap1 - k) (N := x2.length) (vs := x2) (T := 52) Tryz.underlying38 ty52 (by rw [← vslv_at (by omega)]; exact look_t rfl) (src_row (i := 2) (look_t rfl) rfl hv) (Nat.min_eq_left (by omega)) rfl rfl (fun A W o cells h h' => row_part (by omega) h h') ?_
    refine Sq.nil ?_
    refine To.next ?_
    have e1 : (x0.take k ++ List.replicate (x0.length + x2.length - k) (default : T_api_Installed)).take k ++ x2 ++ (x0.take k ++ List.replicate (x0.length + x2.length - k) (default : T_api_Installed)).drop (k + x2.length) = x0.take k ++ x2 ++ List.replicate (x0.length - k) (default : T_api_Installed) := by
      have hk' : (x0.take k).length = k := by rw [List.length_take]; omega
      rw [List.take_left' hk', List.drop_append, hk', List.drop_eq_nil_of_le (by omega), List.nil_append, List.drop_replicate]
      congr 2
      omega
    have hw2 : w64 ((k : Int) + (x2.length : Int)) = ((k + x2.length : Nat) : Int) := by rw [w64_in (by omega) (by omega)]; simp
    refine Wp.seq ?_
    refine Wp.le (E' := [(0, VP.eq (slv (some p) x0.length cap00)), (1, VP.of (k : Int)), (7, VP.of (x2.length : Int)), (9, VP.eq (slv (some q1) (k + (x0.length + x2.length - k)) cap1))]) (.same rfl (.same rfl (.same rfl (.same rfl .nil)))) ?_
    refine Wp.drawD mixed (⟨some 46, [], [], [], fun _ => VP.eq (slv (some q1) (k + (x0.length + x2.length - k)) cap1), fun _ _ => ⟨none, .dead⟩⟩ :: ⟨some 47, [], [], [], fun _ => VP.of (k : Int), fun _ _ => ⟨none, .dead⟩⟩ :: ⟨some 48, [], [], [], fun _ => VP.of (x2.length : Int), fun _ _ => ⟨none, .dead⟩⟩ :: ⟨some 49, (1 :: 2 :: []), [], [], fun _ => VP.of (w64 ((k : Int) + (x2.length : Int))), fun _ _ => ⟨none, .dead⟩⟩ :: ⟨some 50, (0 :: 3 :: []), [], [], fun _ => VP.eq (vslv (some q1) (k + x2.length) ((k + (x0.length + x2.length - k)) - (k + x2.length)) cap1 (Rp.size T_api_Installed)), fun _ _ => ⟨none, .dead⟩⟩ :: ⟨some 51, [], [], [], fun _ => VP.eq (slv (some p) x0.length cap00), fun _ _ => ⟨none, .dead⟩⟩ :: ⟨some 52, [], [], [], fun _ => VP.of (k : Int), fun _ _ => ⟨none, .dead⟩⟩ :: ⟨some 53, (5 :: 6 :: []), [], [], fun _ => VP.eq (vslv (some p) k (x0.length - k) cap00 (Rp.size T_api_Installed)), fun _ _ => ⟨none, .dead⟩⟩ :: ⟨some 54, (4 :: 7 :: []), (0 :: 1 :: []), (0 :: []), fun _ => VP.of ((((x0.drop k).take (x0.length - k)).length : Nat) : Int), fun _ _ => ⟨some q1, .row 52 ((x0.take k ++ x2 ++ List.replicate (x0.length - k) (default : T_api_Installed)).take (k + x2.length) ++ (x0.drop k).take (x0.length - k) ++ (x0.take k ++ x2 ++ List.replicate (x0.length - k) (default : T_api_Installed)).drop (k + x2.length + ((x0.drop k).take (x0.length - k)).length)) cap1⟩⟩ :: []) ((some 46, [], [], []) :: (some 47, [], [], []) :: (some 48, [], [], []) :: (some 49, (1 :: 2 :: []), [], []) :: (some 50, (0 :: 3 :: []), [], []) :: (some 51, [], [], []) :: (some 52, [], [], []) :: (some 53, (5 :: 6 :: []), [], []) :: (some 54, (4 :: 7 :: []), (0 :: 1 :: []), (0 :: [])) :: []) (0 :: 1 :: 7 :: 9 :: []) rfl rfl (by kernel_rfl) ⟨?_, ?_, ?_, ?_, ?_, ?_, ?_, ?_, ?_, trivial⟩ fun hd => ?_
    · exact hd_v rfl rfl rfl fun hd E' L' hE hL => r_move (look_t (hE _ _ rfl))
    · exact hd_v rfl rfl rfl fun hd E' L' hE hL => r_move (look_t (hE _ _ rfl))
    · exact hd_v rfl rfl rfl fun hd E' L' hE hL => r_move (look_t (hE _ _ rfl))
    · exact hd_v rfl rfl rfl fun hd E' L' hE hL => r_add (look_t (hE _ _ rfl)) (look_t (hE _ _ rfl))
    · exact hd_v rfl rfl rfl fun hd E' L' hE hL => r_sliceE (α := T_api_Installed) (m := k + x2.length) (h := (k + (x0.length + x2.length - k))) Tryz.underlying38 ty52 (look_t (hE _ _ rfl)) (.some (look_t (hE _ _ rfl))) .none hw2 rfl ⟨by omega, by omega⟩
    · exact hd_v rfl rfl rfl fun hd E' L' hE hL => r_move (look_t (hE _ _ rfl))
    · exact hd_v rfl rfl rfl fun hd E' L' hE hL => r_move (look_t (hE _ _ rfl))
    · exact hd_v rfl rfl rfl fun hd E' L' hE hL => r_sliceE (α := T_api_Installed) (m := k) (h := x0.length) Tryz.underlying38 ty52 (look_t (hE _ _ rfl)) (.some (look_t (hE _ _ rfl))) .none rfl rfl ⟨by omega, by omega⟩
    · intro hd E' L' hE hL
      have h0 := hL 0 _ rfl rfl
      rw [e1] at h0
      refine Sq.copyG (i := 0) (p := q1) (off := (k + x2.length) * Rp.size T_api_Installed) (T := 52) (vs := (x0.drop k).take (x0.length - k)) (N := x0.length - k) (dLen := (k + (x0.length + x2.length - k)) - (k + x2.length)) (dCap := cap1 - (k + x2.length)) Tryz.underlying38 ty52 (by rw [← vslv_at (p := q1) (lo := k + x2.length) (cap := cap1) (size := Rp.size T_api_Installed) (by omega)]; exact look_t (hE _ _ rfl)) (src_own (i := 1) (look_t (hE _ _ rfl)) (hL 1 _ rfl rfl) (by omega) (by omega)) (by rw [show ((x0.drop k).take (x0.length - k)).length = x0.length - k by simp]; exact Nat.min_eq_left (by omega)) h0 rfl (fun A W o cells h h' => row_part (by simp; omega) h h') ?_
      refine Sq.nil ?_
      exact To.fin (gm []) rfl rfl
    have e2 : ((x0.take k ++ x2 ++ List.replicate (x0.length - k) (default : T_api_Installed)).take (k + x2.length) ++ (x0.drop k).take (x0.length - k) ++ (x0.take k ++ x2 ++ List.replicate (x0.length - k) (default : T_api_Installed)).drop (k + x2.length + ((x0.drop k).take (x0.length - k)).length)) = x0.take k ++ x2 ++ x0.drop k := by
      have hk' : (x0.take k ++ x2).length = k + x2.length := by simp; omega
      have hk2 : (x0.drop k).take (x0.length - k) = x0.drop k := List.take_of_length_le (by simp)
      have hk3 : (x0.take k ++ x2 ++ List.replicate (x0.length - k) (default : T_api_Installed)).drop (k + x2.length + (x0.drop k).length) = [] := List.drop_eq_nil_of_le (by rw [List.length_append, hk', List.length_replicate, List.length_drop]; omega)
      rw [hk2, List.take_left' hk', hk3, List.append_nil]
    refine To.eqL (L2 := [⟨some q1, .row 52 ((x0.take k ++ x2 ++ List.replicate (x0.length - k) (default : T_api_Installed)).take (k + x2.length) ++ (x0.drop k).take (x0.length - k) ++ (x0.take k ++ x2 ++ List.replicate (x0.length - k) (default : T_api_Installed)).drop (k + x2.length + ((x0.drop k).take (x0.length - k)).length)) cap1⟩, ⟨some p, .row 52 x0 cap00⟩, ⟨some q, .row 52 x2 cap02⟩]) rfl ?_
    rw [e2]
    refine To.le (E' := [(9, VP.eq (slv (some q1) (k + (x0.length + x2.length - k)) cap1))]) (.same rfl .nil) ?_
    refine To.next ?_
    refine Wp.seq ?_
    refine Wp.reg ?_
    refine Sq.v (r_move (look_t rfl)) rfl rfl rfl ?_
    refine Sq.v (r_asg (look_t rfl)) rfl rfl rfl ?_
    refine Sq.nil ?_
    refine To.next ?_
    refine Wp.ret ?_
    have e3 : k + (x0.length + x2.length - k) = (x0.take k ++ x2 ++ x0.drop k).length := by simp; omega
    rw [e3]
    exact To.endO1 (some q1, cap1) (.cons_cons _ (List.nil_sublist _)) rfl rfl (rvo_t rfl)
  have hroom : x0.length + x2.length ≤ cap00 := by rw [hw] at hc2; simp only [decide_eq_false_iff_not] at hc2; omega
  have hml : maxLen = 9223372036854775807 := rfl
  have hw2 : w64 ((k : Int) + (x2.length : Int)) = ((k + x2.length : Nat) : Int) := by rw [w64_in (by omega) (by omega)]; simp
  refine Wp.skip ?_
  refine To.next ?_
  refine Wp.seq ?_
  refine Wp.reg ?_
  refine Sq.v (r_move (look_t rfl)) rfl rfl rfl ?_
  refine Sq.v (r_move (look_t rfl)) rfl rfl rfl ?_
  refine Sq.v (r_move (look_t rfl)) rfl rfl rfl ?_
  refine Sq.v (r_add (look_t rfl) (look_t rfl)) rfl rfl rfl ?_
  refine Sq.v (r_sliceE (α := T_api_Installed) (m := 0) (h := x0.length + x2.length) Tryz.underlying38 ty52 (look_t rfl) .none (.some (look_t rfl)) rfl hw ⟨by omega, by omega⟩) rfl rfl rfl ?_
  refine Sq.v (r_asg (look_t rfl)) rfl rfl rfl ?_
  refine Sq.nil ?_
  refine To.next ?_
  refine Wp.seq ?_
  refine Wp.seq ?_
  refine Wp.reg ?_
  refine Sq.v (r_move (look_t rfl)) rfl rfl rfl ?_
  refine Sq.v (r_move (look_t rfl)) rfl rfl rfl ?_
  refine Sq.v (r_move (look_t rfl)) rfl rfl rfl ?_
  refine Sq.v (r_move (look_t rfl)) rfl rfl rfl ?_
  refine Sq.v (r_add (look_t rfl) (look_t rfl)) rfl rfl rfl ?_
  refine Sq.v (r_sliceE (α := T_api_Installed) (p := p) (n := x0.length + x2.length) (cap := cap00) (m := k + x2.length) (h := x0.length + x2.length) Tryz.underlying38 ty52 (look_z (size := Rp.size T_api_Installed) (look_t rfl)) (.some (look_t rfl)) .none hw2 rfl ⟨by omega, by omega⟩) rfl rfl rfl ?_
  refine Sq.v (r_ovl (α := T_api_Installed) (p := p) (q := q) (T := 52) (U := 52) (xs := x0) (vs := x2) (cap := cap00) (cap' := cap02) (i := 0) (j := 1) (tR := 4) (by kernel_rfl) Tryz.func280 (by kernel_rfl) (by kernel_rfl) (by kernel_rfl) (by kernel_rfl) Tryz.underlying38 ty52 (look_t rfl) (look_a (p := p) (lo := k + x2.length) (cap := cap00) (size := Rp.size T_api_Installed) (by omega) (look_t rfl)) rfl rfl hpq (by omega)) rfl rfl rfl ?_
  refine Sq.v (r_not (look_t rfl)) rfl rfl rfl ?_
  refine Sq.nil ?_
  refine To.next ?_
  refine Wp.cond (look_t rfl) (fun _ => ?_) (fun hc3 => by cases hc3)
  · have hs0 : (x0.length + x2.length - 0) = x0.length + x2.length := by omega
    have hdt : (x0.drop k).take (x0.length - k) = x0.drop k := List.take_of_length_le (by simp)
    refine Wp.seq ?_
    refine Wp.le (E' := [(0, VP.eq (vslv (some p) 0 (x0.length + x2.length - 0) cap00 (Rp.size T_api_Installed))), (1, VP.of (k : Int)), (2, VP.eq (slv (some q) x2.length cap02)), (7, VP.of (x2.length : Int))]) (.same rfl (.same rfl (.same rfl (.same rfl .nil)))) ?_
    refine Wp.drawD mixed (⟨some 69, [], [], [], fun _ => VP.eq (vslv (some p) 0 (x0.length + x2.length - 0) cap00 (Rp.size T_api_Installed)), fun _ _ => ⟨none, .dead⟩⟩ :: ⟨some 70, [], [], [], fun _ => VP.of (k : Int), fun _ _ => ⟨none, .dead⟩⟩ :: ⟨some 71, [], [], [], fun _ => VP.of (x2.length : Int), fun _ _ => ⟨none, .dead⟩⟩ :: ⟨some 72, (1 :: 2 :: []), [], [], fun _ => VP.of (w64 ((k : Int) + (x2.length : Int))), fun _ _ => ⟨none, .dead⟩⟩ :: ⟨some 73, (0 :: 3 :: []), [], [], fun _ => VP.eq (vslv (some p) (k + x2.length) (x0.length + x2.length - (k + x2.length)) cap00 (Rp.size T_api_Installed)), fun _ _ => ⟨none, .dead⟩⟩ :: ⟨some 74, [], [], [], fun _ => VP.eq (vslv (some p) 0 (x0.length + x2.length - 0) cap00 (Rp.size T_api_Installed)), fun _ _ => ⟨none, .dead⟩⟩ :: ⟨some 75, [], [], [], fun _ => VP.of (k : Int), fun _ _ => ⟨none, .dead⟩⟩ :: ⟨some 76, (5 :: 6 :: []), [], [], fun _ => VP.eq (vslv (some p) k (x0.length + x2.length - k) cap00 (Rp.size T_api_Installed)), fun _ _ => ⟨none, .dead⟩⟩ :: ⟨some 77, (4 :: 7 :: []), (0 :: []), (0 :: []), fun _ => VP.of ((((x0.drop k).take (x0.length - k)).length : Nat) : Int), fun _ _ => ⟨some p, .gap 52 x0 k x2.length cap00⟩⟩ :: []) ((some 69, [], [], []) :: (some 70, [], [], []) :: (some 71, [], [], []) :: (some 72, (1 :: 2 :: []), [], []) :: (some 73, (0 :: 3 :: []), [], []) :: (some 74, [], [], []) :: (some 75, [], [], []) :: (some 76, (5 :: 6 :: []), [], []) :: (some 77, (4 :: 7 :: []), (0 :: []), (0 :: [])) :: []) (0 :: 1 :: 2 :: 7 :: []) rfl rfl (by kernel_rfl) ⟨?_, ?_, ?_, ?_, ?_, ?_, ?_, ?_, ?_, trivial⟩ fun hd => ?_
    · exact hd_v rfl rfl rfl fun hd E' L' hE hL => r_move (look_t (hE _ _ rfl))
    · exact hd_v rfl rfl rfl fun hd E' L' hE hL => r_move (look_t (hE _ _ rfl))
    · exact hd_v rfl rfl rfl fun hd E' L' hE hL => r_move (look_t (hE _ _ rfl))
    · exact hd_v rfl rfl rfl fun hd E' L' hE hL => r_add (look_t (hE _ _ rfl)) (look_t (hE _ _ rfl))
    · exact hd_v rfl rfl rfl fun hd E' L' hE hL => r_sliceE (α := T_api_Installed) (n := x0.length + x2.length) (m := k + x2.length) (h := x0.length + x2.length) Tryz.underlying38 ty52 (look_z (size := Rp.size T_api_Installed) (look_t (hE _ _ rfl))) (.some (look_t (hE _ _ rfl))) .none hw2 rfl ⟨by omega, by omega⟩
    · exact hd_v rfl rfl rfl fun hd E' L' hE hL => r_move (look_t (hE _ _ rfl))
    · exact hd_v rfl rfl rfl fun hd E' L' hE hL => r_move (look_t (hE _ _ rfl))
    · exact hd_v rfl rfl rfl fun hd E' L' hE hL => r_sliceE (α := T_api_Installed) (n := x0.length + x2.length) (m := k) (h := x0.length + x2.length) Tryz.underlying38 ty52 (look_z (size := Rp.size T_api_Installed) (look_t (hE _ _ rfl))) (.some (look_t (hE _ _ rfl))) .none rfl rfl ⟨by omega, by omega⟩
    · intro hd E' L' hE hL
      have h0 := hL 0 _ rfl rfl
      refine Sq.copyG (i := 0) (p := p) (off := (k + x2.length) * Rp.size T_api_Installed) (T := 52) (vs := (x0.drop k).take (x0.length - k)) (N := x0.length + x2.length - k) (dLen := x0.length + x2.length - (k + x2.length)) (dCap := cap00 - (k + x2.length)) (cp' := .gap 52 x0 k x2.length cap00) Tryz.underlying38 ty52 (look_a (p := p) (lo := k + x2.length) (cap := cap00) (size := Rp.size T_api_Installed) (by omega) (look_t (hE _ _ rfl))) (src_own (i := 0) (look_t (hE _ _ rfl)) h0 (by omega) (by omega)) (by rw [hdt]; rw [show (x0.drop k).length = x0.length + x2.length - (k + x2.length) by simp; omega]; exact Nat.min_eq_right (by omega)) h0 rfl (fun A W o cells h h' => gap_new hk hroom h (by rw [← hdt]; exact h')) ?_
      refine Sq.nil ?_
      exact To.fin (gm []) rfl rfl
    refine To.eqL (L2 := [⟨some p, .gap 52 x0 k x2.length cap00⟩, ⟨some q, .row 52 x2 cap02⟩]) rfl ?_
    refine To.le (E' := [(0, VP.eq (vslv (some p) 0 (x0.length + x2.length - 0) cap00 (Rp.size T_api_Installed))), (1, VP.of (k : Int)), (2, VP.eq (slv (some q) x2.length cap02))]) (.same rfl (.same rfl (.same rfl .nil))) ?_
    refine To.next ?_
    refine Wp.seq ?_
    refine Wp.reg ?_
    refine Sq.v (r_move (look_t rfl)) rfl rfl rfl ?_
    refine Sq.v (r_move (look_t rfl)) rfl rfl rfl ?_
    refine Sq.v (r_sliceE (α := T_api_Installed) (n := x0.length + x2.length) (m := k) (h := x0.length + x2.length) Tryz.underlying38 ty52 (look_z (size := Rp.size T_api_Installed) (look_t rfl)) (.some (look_t rfl)) .none rfl rfl ⟨by omega, by omega⟩) rfl rfl rfl ?_
    refine Sq.v (r_move (look_t rfl)) rfl rfl rfl ?_
    refine Sq.copyG (i := 0) (p := p) (off := k * Rp.size T_api_Installed) (dLen := x0.length + x2.length - k) (dCap := cap00 - k) (N := x2.length) (vs := x2) (T := 52) (cp' := .row 52 (x0.take k ++ x2 ++ x0.drop k) cap00) Tryz.underlying38 ty52 (look_a (p := p) (lo := k) (cap := cap00) (size := Rp.size T_api_Installed) (by omega) (look_t rfl)) (src_row (i := 1) (look_t rfl) rfl hv) (Nat.min_eq_left (by omega)) rfl rfl (fun A W o cells h h' => gap_fill hk h h') ?_
    refine Sq.nil ?_
    refine To.next ?_
    refine Wp.seq ?_
    refine Wp.reg ?_
    refine Sq.v (r_move (look_t rfl)) rfl rfl rfl ?_
    refine Sq.v (r_asg (look_t rfl)) rfl rfl rfl ?_
    refine Sq.nil ?_
    refine To.next ?_
    refine Wp.ret ?_
    have e3 : x0.length + x2.length - 0 = (x0.take k ++ x2 ++ x0.drop k).length := by simp; omega
    rw [vslv_zero, e3]
    exact To.endO1 (some p, cap00) (.cons_cons _ (List.nil_sublist _)) rfl rfl (rvo_t rfl)
end Go.Proofs.YtmnggbjcnoffeaaGreat

namespace Go.Proofs.YtmnggbjcnoffeaaGreat
open Go Gv
set_option linter.unusedVariables false
set_option linter.unusedSimpArgs false
set_option maxRecDepth 100000
set_option maxHeartbeats 2000000
theorem C_trie_Trie_Remove {hp : Pool Cell} {x0 : Ref} {x1 : T_api_Value} {x2 : Int}  {r : Bool × (Pool Cell)} (h : L_trie_Trie_Remove hp x0 x1 x2 = some r) : MeetsO Tryz.prog 245 [VP.of (x0), VP.of (x1), VP.of (x2)] ([] ++ Ents hp) (δ := Unit) (fun d => VP.of (r.1)) (fun d => [] ++ Ents r.2) := by
 unfold L_trie_Trie_Remove at h
 refine MeetsO.ofM Tryz.func245 rfl Tryz.ntmps245 rfl fun W A => ?_
 refine Qsr ?_
 refine Qbx fun p1 => ?_
 refine Qa ?_
 refine Qns ?_
 refine Qsr ?_
 refine Qm ?_
 refine Ql0 0 ty43 ?_
 refine Qm ?_
 obtain ⟨y1,hy1,h⟩:=Qbs h
 refine Sq.vS (HS.callQ 1 rfl en240 (C_trie_Trie_Get hy1) ⟨look_t rfl, look_t rfl, look_t rfl, trivial⟩) rfl rfl rfl ?_
 refine Qm ?_
 refine Qxt ?_
 refine Qxt ?_
 refine Qa ?_
 refine Qa ?_
 refine Qnr ?_
 refine Qm ?_
 refine Q1 r_not ?_
 refine Qnx ?_
 refine Qcd h (fun h=>?_) fun h=>?_
 ·refine Qsr ?_
  refine Qa ?_
  refine Qnx ?_
  refine Wp.ret ?_
  refine To.ret ?_
  obtain rfl:=some_in h
  refine To.endM ?_
  exact To.endO1 () (.cons _ (.refl _)) rfl rfl (rvo_t rfl)
 ·refine Qkn ?_
  refine Qsr ?_
  refine Qm ?_
  obtain ⟨o1,ho1,h⟩:=Qbs h
  refine Qv (r_nck (look_ref (look_t rfl) ho1)) ?_
  refine Q1 (r_fa fd337_1) ?_
  obtain ⟨c1,hc1,h⟩:=Qbs h
  refine Qv (r_loadM ((Lens.id T_trie_Trie).comp le_T_trie_Trie_root) (r := c1.f_root) ty331 (look_t rfl) (pmem (n := 1) rfl (rds337 hc1) rfl) rfl rfl) ?_
  refine Sq.bslO (α := Ref) (r := [c1.f_root]) Tryz.underlying341 ty331 zr331 rfl rfl (.cons (by simp) (look_t rfl) (.nil)) rfl fun key1 => ?_
  refine Sq.allocX (z := (default : List Ref)) [0] zh341_0 zr341 rfl fun p2 => ?_
  refine Sq.own (α := Ref) 331 ?_
  refine Sq.allocX (z := (default : List Int)) [0] zh63_0 zr63 rfl fun p3 => ?_
  refine Sq.own (α := Int) 3 ?_
  refine Sq.storeH (i := 3) (γ := Ref) (b' := ([] : List Ref)) (os' := [(0, slv key1 [c1.f_root].length 1)]) (Lens.id (List Ref)) ty341 (look_t rfl) (look_t rfl) slv_one rfl rfl rfl rfl ?_
  refine Sq.own (α := Int) 3 ?_
  refine Sq.storeH (i := 2) (γ := Int) (b' := ([] : List Int)) (os' := [(0, slv none ([] : List Int).length 0)]) (Lens.id (List Int)) ty63 (look_t rfl) (look_own) slv_one rfl rfl rfl rfl ?_
  refine Qns ?_
  refine Qsr ?_
  refine Qm ?_
  refine Ql0 6 ty43 ?_
  refine Qm ?_
  obtain ⟨y2,hy2,h⟩:=Qbs h
  refine Qcl en250 (C_trie_Trie_path hy2) ?_
  refine Qnx ?_
  refine Wp.block ?_
  obtain ⟨e1,hl,h⟩:=Qbs h
  refine range_wpK (hp := hp) (γ := (Option Nat × Nat) × (Option Nat × Nat)) (g0 := ((none, 0), (key1, 1))) (Ls := fun s1 g1 => (⟨g1.1.1, .row 3 (s1.1 : List Int) g1.1.2⟩ :: ⟨none, .row 3 (([] : List Int) : List Int) 0⟩ :: ⟨some p3, .varX ([] : List Int) [(0, slv g1.1.1 s1.1.length g1.1.2)]⟩ :: ⟨none, .row 331 (([] : List Ref) : List Ref) 0⟩ :: ⟨some p2, .varX ([] : List Ref) [(0, slv g1.2.1 s1.2.length g1.2.2)]⟩ :: ⟨g1.2.1, .row 331 (s1.2 : List Ref) g1.2.2⟩ :: ⟨some p1, .var (x1 : T_api_Value)⟩ :: Ents hp)) (Lx := fun q1 g1 => Empty.elim q1) (fun s1 g1 => [⟨g1.1.1, .row 3 (s1.1 : List Int) g1.1.2⟩, ⟨none, .row 3 (([] : List Int) : List Int) 0⟩, ⟨some p3, .varX ([] : List Int) [(0, slv g1.1.1 s1.1.length g1.1.2)]⟩, ⟨none, .row 331 (([] : List Ref) : List Ref) 0⟩, ⟨some p2, .varX ([] : List Ref) [(0, slv g1.2.1 s1.2.length g1.2.2)]⟩, ⟨g1.2.1, .row 331 (s1.2 : List Ref) g1.2.2⟩, ⟨some p1, .var (x1 : T_api_Value)⟩]) (fun q1 => Empty.elim q1) rfl en255 rfl Ck_trie_Trie_path_fn1 hl (fun _ _ => rfl) rfl rfl (fun vx1 s1 r h g1 W0' X' A0' l D rec hrs => ?_) (fun s1 hr g1 D => ?_) (fun q1 hr g1 D => ?_)
  ·clear hl
   refine Wp.reg ?_
   refine Qa ?_
   refine Sq.nil ?_
   refine To.begin 0 rfl hrs ?_
   refine Wp.block ?_
   obtain ⟨k1,hk1,h⟩:=Qbs h
   obtain ⟨o2,ho2,h⟩:=Qbs h
   obtain ⟨k2,hk2,h⟩:=Qbs h
   obtain ⟨c2,hc2,h⟩:=Qbs h
   obtain ⟨y3,hy3,h⟩:=Qbs h
   obtain ⟨y4,hy4,h⟩:=Qbs h
   refine Qwl [0, 1, 2, 4, 6, 7, 8, 9, 10, 11, 14, 15, 16, 17, 18, 19, 20, 21, 22, 23, 24, 25, 26, 28, 29, 30, 31, 32] ?_
   refine Wp.drawQ 9 mixed (Hp 33 [] (6 :: []) _ :: Hp 34 [] (6 :: []) _ :: Hp 35 [] (6 :: []) _ :: Hp 36 (2 :: []) (7 :: []) _ :: Hp 37 (3 :: []) [] _ :: Hp 38 (1 :: 3 :: 4 :: []) (7 :: []) _ :: Hp 39 (3 :: 5 :: []) (7 :: []) _ :: Hp 40 [] [] _ :: Hp 41 (3 :: 5 :: 6 :: []) [] _ :: Hp 42 (3 :: 5 :: 6 :: 8 :: []) [] _ :: Hp 43 (3 :: 5 :: 6 :: 7 :: 9 :: []) [] _ :: ⟨some 44, (3 :: 5 :: 6 :: 10 :: []), [], [], fun _ => VP.of (vget c2.f_children k2), fun _ _ => ⟨none, .dead⟩⟩ :: Hp 45 (3 :: 5 :: 6 :: 11 :: []) [] _ :: ⟨some 46, (0 :: 3 :: 5 :: 6 :: 12 :: []), (7 :: []), (7 :: []), fun hd => VP.eq (slv (hd 13 0) y3.length ((hd 13 1).getD 0)), fun hd _ => ⟨(hd 13 0), .row 331 (y3 : List Ref) ((hd 13 1).getD 0)⟩⟩ :: Hp 47 [] (4 :: []) _ :: Hp 48 [] [] _ :: Hp 49 (15 :: []) [] _ :: ⟨some 50, (14 :: 16 :: []), (2 :: []), (2 :: []), fun hd => VP.eq (slv (hd 17 0) y4.length ((hd 17 1).getD 0)), fun hd _ => ⟨(hd 17 0), .row 3 (y4 : List Int) ((hd 17 1).getD 0)⟩⟩ :: ⟨none, (0 :: 1 :: 2 :: 13 :: []), (6 :: []), (6 :: []), fun _ => VP.any, fun hd _ => ⟨some p2, .varX ([] : List Ref) [(0, slv (hd 13 0) y3.length ((hd 13 1).getD 0))]⟩⟩ :: ⟨none, (14 :: 17 :: []), (4 :: []), (4 :: []), fun _ => VP.any, fun hd _ => ⟨some p3, .varX ([] : List Int) [(0, slv (hd 17 0) y4.length ((hd 17 1).getD 0))]⟩⟩ :: []) _ (0 :: 1 :: 2 :: 4 :: 6 :: 7 :: 8 :: 9 :: 10 :: 11 :: 14 :: 15 :: 16 :: 17 :: 18 :: 19 :: 20 :: 21 :: 22 :: 23 :: 24 :: 25 :: 26 :: 28 :: 29 :: 30 :: 31 :: 32 :: []) rfl rfl (by kernel_rfl) (by kernel_rfl) ⟨HeadD.q (Dv fun hd E' L' hE hL => r_loadH (i := 6) (q := 0) (β := List Ref) (γ := Ref) ty341 (look_t (hE _ _ rfl)) (hL 6 _ rfl rfl) rfl), HeadD.q (Dv fun hd E' L' hE hL => r_loadH (i := 6) (q := 0) (β := List Ref) (γ := Ref) ty341 (look_t (hE _ _ rfl)) (hL 6 _ rfl rfl) rfl), HeadD.q (Dv fun hd E' L' hE hL => r_loadH (i := 6) (q := 0) (β := List Ref) (γ := Ref) ty341 (look_t (hE _ _ rfl)) (hL 6 _ rfl rfl) rfl), HeadD.q (Dv fun hd E' L' hE hL => r_lenO (i := 7) Tryz.underlying341 (look_t (hE _ _ rfl)) rfl (hL 7 _ rfl rfl)), HeadD.q (D2 r_sub), HeadD.q (Dv fun hd E' L' hE hL => r_iaO (i := 7) (k := k1) (xs := (s1.2 : List Ref)) Tryz.underlying341 ty331 (look_t (hE _ _ rfl)) (look_t (hE _ _ rfl)) (hL 7 _ rfl rfl) (idx_some hk1)), HeadD.q (Dv fun hd E' L' hE hL => r_loadR (i := 7) (k := k1) (Lens.id Ref) (r := (lget s1.2 k1)) ty331 (look_t (hE _ _ rfl)) (hL 7 _ rfl rfl) (idx_some hk1).1 rfl rfl), HeadD.q (Dm), HeadD.q (Dv fun hd E' L' hE hL => r_nck (look_ref (look_t (hE _ _ rfl)) ho2)), HeadD.q (D1 (r_fa fd335_0)), HeadD.q (Dv fun hd E' L' hE hL => r_ia (k := k2) ar333 (look_t (hE _ _ rfl)) (look_t (hE _ _ rfl)) (idx_some hk2)), ?_, HeadD.q (Dv fun hd E' L' hE hL => r_bsl (r := [vget c2.f_children k2]) Tryz.underlying341 ty331 zr331 rfl rfl (.cons (by simp) (look_t (hE _ _ rfl)) (.nil))), ?_, HeadD.q (Dv fun hd E' L' hE hL => r_loadH (i := 4) (q := 0) (β := List Int) (γ := Int) ty63 (look_t (hE _ _ rfl)) (hL 4 _ rfl rfl) rfl), HeadD.q (Dm), HeadD.q (Dv fun hd E' L' hE hL => r_bsl (r := [vx1]) Tryz.underlying63 ty3 zr3 rfl rfl (.cons (by simp) (look_t (hE _ _ rfl)) (.nil))), ?_, ?_, ?_, trivial⟩ fun hd1 => ?_
   ·intro hd E' L' hE hL hP
    refine Qv (r_loadM (((Lens.id T_trie_node).comp le_T_trie_node_children).comp (Lens.idx (α := Ref) 2 k2 (idx_some hk2).1)) (r := vget c2.f_children k2) ty331 (look_t (hE _ _ rfl)) (pmem (n := 9) (hP.trans rfl) (rds335 hc2) rfl) rfl rfl) ?_
    refine Sq.nil ?_
    exact To.fin (gm []) rfl rfl
   ·intro hd E' L' hE hL hP
    refine Sq.app (i := 7) Tryz.underlying341 ty331 zr331 (bytes := 8) (by kernel_rfl) (look_t (hE _ _ rfl)) (hL 7 _ rfl rfl) (look_t (hE _ _ rfl)) hy3 rfl fun key2 cap1 => ?_
    refine Sq.nil ?_
    exact To.fin (gm [key2, some cap1]) rfl rfl
   ·intro hd E' L' hE hL hP
    refine Sq.app (i := 2) Tryz.underlying63 ty3 zr3 (bytes := 8) (by kernel_rfl) (look_t (hE _ _ rfl)) (hL 2 _ rfl rfl) (look_t (hE _ _ rfl)) hy4 rfl fun key3 cap2 => ?_
    refine Sq.nil ?_
    exact To.fin (gm [key3, some cap2]) rfl rfl
   ·intro hd E' L' hE hL hP
    refine Sq.storeH (i := 6) (γ := Ref) (b' := ([] : List Ref)) (os' := [(0, slv (hd 13 0) y3.length ((hd 13 1).getD 0))]) (Lens.id (List Ref)) ty341 (look_t (hE _ _ rfl)) (look_t (hE _ _ rfl)) slv_one (hL 6 _ rfl rfl) rfl rfl rfl ?_
    refine Sq.nil ?_
    exact To.fin (gm []) rfl rfl
   ·intro hd E' L' hE hL hP
    refine Sq.storeH (i := 4) (γ := Int) (b' := ([] : List Int)) (os' := [(0, slv (hd 17 0) y4.length ((hd 17 1).getD 0))]) (Lens.id (List Int)) ty63 (look_t (hE _ _ rfl)) (look_t (hE _ _ rfl)) slv_one (hL 4 _ rfl rfl) rfl rfl rfl ?_
    refine Sq.nil ?_
    exact To.fin (gm []) rfl rfl
   refine To.eqL (L2 := (⟨some l, .is (.loop { rec with state := .busy })⟩ :: ⟨some D, .dfr⟩ :: ⟨(hd1 17 0), .row 3 (y4 : List Int) ((hd1 17 1).getD 0)⟩ :: ⟨none, .row 3 (([] : List Int) : List Int) 0⟩ :: ⟨some p3, .varX ([] : List Int) [(0, slv (hd1 17 0) y4.length ((hd1 17 1).getD 0))]⟩ :: ⟨none, .row 331 (([] : List Ref) : List Ref) 0⟩ :: ⟨some p2, .varX ([] : List Ref) [(0, slv (hd1 13 0) y3.length ((hd1 13 1).getD 0))]⟩ :: ⟨(hd1 13 0), .row 331 (y3 : List Ref) ((hd1 13 1).getD 0)⟩ :: ⟨some p1, .var (x1 : T_api_Value)⟩ :: Ents hp)) rfl ?_
   refine Qtl [0, 1, 2, 4, 6, 7, 8, 9, 10, 11, 14, 15, 16, 17, 18, 19, 20, 21, 22, 23, 24, 25, 26, 28, 29, 30, 31, 32, 36, 37, 39, 40, 41, 42, 43, 44, 45, 46, 48, 49, 50] ?_
   refine To.bnorm ?_
   obtain rfl:=some_in h
   exact To.rnd (((hd1 17 0), ((hd1 17 1).getD 0)), ((hd1 13 0), ((hd1 13 1).getD 0))) 0 rfl
  ·clear hl; subst hr; simp only [Sum.elim_inl] at h
   refine To.eqL (L2 := (⟨some D, .dfr⟩ :: ⟨g1.1.1, .row 3 (s1.1 : List Int) g1.1.2⟩ :: ⟨none, .row 3 (([] : List Int) : List Int) 0⟩ :: ⟨some p3, .varX ([] : List Int) [(0, slv g1.1.1 s1.1.length g1.1.2)]⟩ :: ⟨none, .row 331 (([] : List Ref) : List Ref) 0⟩ :: ⟨some p2, .varX ([] : List Ref) [(0, slv g1.2.1 s1.2.length g1.2.2)]⟩ :: ⟨g1.2.1, .row 331 (s1.2 : List Ref) g1.2.2⟩ :: ⟨some p1, .var (x1 : T_api_Value)⟩ :: Ents hp)) rfl ?_
   refine To.bnorm ?_
   refine To.next ?_
   refine Qsr ?_
   refine Qv (r_loadH (i := 5) (q := 0) (β := List Ref) (γ := Ref) ty341 (look_t rfl) rfl rfl) ?_
   refine Qm ?_
   obtain ⟨k3,hk3,h⟩:=Qbs h
   refine Qv (r_iaO (i := 6) (k := k3) (xs := (s1.2 : List Ref)) Tryz.underlying341 ty331 (look_t rfl) (look_t rfl) rfl (idx_some hk3)) ?_
   refine Qv (r_loadR (i := 6) (k := k3) (Lens.id Ref) (r := (lget s1.2 k3)) ty331 (look_t rfl) rfl (idx_some hk3).1 rfl rfl) ?_
   refine Qa ?_
   refine Qnr ?_
   refine Qm ?_
   refine Qm ?_
   obtain ⟨o3,ho3,h⟩:=Qbs h
   refine Qv (r_nck (look_ref (look_t rfl) ho3)) ?_
   refine Q1 (r_fa fd335_1) ?_
   obtain ⟨c3,hc3,h⟩:=Qbs h
   obtain ⟨hp1,hhp1,h⟩:=Qbs h
   refine Sq.storeQ (k' := Cell.c335 ({ c3 with f_used := false } : T_trie_node)) 8 rfl ((Lens.id T_trie_node).comp le_T_trie_node_used) (v := (false : Bool)) ty4 (look_t rfl) (look_bool false) (rds335 hc3) rfl rfl rfl rfl (some_in hhp1) ?_
   refine Qv (r_nck (look_ref (look_t rfl) ho3)) ?_
   refine Q1 (r_fa fd335_2) ?_
   obtain ⟨c4,hc4,h⟩:=Qbs h
   obtain ⟨hp2,hhp2,h⟩:=Qbs h
   refine Sq.storeQ (k' := Cell.c335 ({ c4 with f_id := 0 } : T_trie_node)) 8 rfl ((Lens.id T_trie_node).comp le_T_trie_node_id) (v := (0 : Int)) ty3 (look_t rfl) (look_int 0) (rds335 hc4) rfl rfl rfl rfl (some_in hhp2) ?_
   refine Qns ?_
   refine Qsr ?_
   refine Qm ?_
   refine Q2 r_sub ?_
   refine Qa ?_
   refine Qnx ?_
   refine Wp.block ?_
   obtain ⟨e2,hl,h⟩:=Qbs h
   refine Wp.loopG (σ := Int × (Pool Cell)) (ε := (Int × Bool × (Pool Cell))) (γ := Unit) (δ := Unit) hl (fun s2 g2 => [(0, VP.of (x0)), (1, VP.of (x1)), (2, VP.of (x2)), (4, VP.eq (.pointer (some ⟨p1, 0, none⟩))), (6, VP.of (false)), (8, VP.of (y1.2)), (9, VP.eq (.pointer (some ⟨p2, 0, none⟩))), (10, VP.eq (.pointer (some ⟨p3, 0, none⟩))), (12, VP.of (lget s1.2 k3)), (13, VP.of (s2.1)), (22, VP.of (!y1.2)), (31, VP.clo 255 [VP.ptr y2.1, VP.ptr y2.2.1, VP.ptr y2.2.2])]) (fun s2 g2 => (⟨some D, .dfr⟩ :: ⟨g1.1.1, .row 3 (s1.1 : List Int) g1.1.2⟩ :: ⟨none, .row 3 (([] : List Int) : List Int) 0⟩ :: ⟨some p3, .varX ([] : List Int) [(0, slv g1.1.1 s1.1.length g1.1.2)]⟩ :: ⟨none, .row 331 (([] : List Ref) : List Ref) 0⟩ :: ⟨some p2, .varX ([] : List Ref) [(0, slv g1.2.1 s1.2.length g1.2.2)]⟩ :: ⟨g1.2.1, .row 331 (s1.2 : List Ref) g1.2.2⟩ :: ⟨some p1, .var (x1 : T_api_Value)⟩ :: Ents s2.2)) (fun q2 => Exit.exit 2) (fun q2 g2 => [(0, VP.of (x0)), (1, VP.of (x1)), (2, VP.of (x2)), (4, VP.eq (.pointer (some ⟨p1, 0, none⟩))), (6, VP.of (false)), (8, VP.of (y1.2)), (9, VP.eq (.pointer (some ⟨p2, 0, none⟩))), (10, VP.eq (.pointer (some ⟨p3, 0, none⟩))), (12, VP.of (lget s1.2 k3)), (13, VP.of (q2.1)), (22, VP.of (!y1.2)), (31, VP.clo 255 [VP.ptr y2.1, VP.ptr y2.2.1, VP.ptr y2.2.2]), (72, VP.of (q2.2.1))]) (fun q2 g2 => (⟨some D, .dfr⟩ :: ⟨g1.1.1, .row 3 (s1.1 : List Int) g1.1.2⟩ :: ⟨none, .row 3 (([] : List Int) : List Int) 0⟩ :: ⟨some p3, .varX ([] : List Int) [(0, slv g1.1.1 s1.1.length g1.1.2)]⟩ :: ⟨none, .row 331 (([] : List Ref) : List Ref) 0⟩ :: ⟨some p2, .varX ([] : List Ref) [(0, slv g1.2.1 s1.2.length g1.2.2)]⟩ :: ⟨g1.2.1, .row 331 (s1.2 : List Ref) g1.2.2⟩ :: ⟨some p1, .var (x1 : T_api_Value)⟩ :: Ents q2.2.2)) () rfl (.same rfl (.same rfl (.same rfl (.same rfl (.same rfl (.same rfl (.same rfl (.same rfl (.same rfl (.same rfl (.same rfl (.same rfl .nil)))))))))))) (fun s2 r h g2 => ?_) (fun g2 => ?_)
   ·clear hl
    refine Wp.seq ?_
    refine Qsr ?_
    refine Qm ?_
    refine Q2 r_geq ?_
    refine Qm ?_
    refine Qg (fun hb => r_loadH (i := 5) (q := 0) (β := List Ref) (γ := Ref) ty341 (look_t rfl) rfl rfl) ?_
    refine Qg1 r_move ?_
    refine Qg2 r_add ?_
    obtain ⟨k4,hk4,h⟩:=Qbs h
    refine Qg (fun hb => r_iaO (i := 6) (k := k4) (xs := (s1.2 : List Ref)) Tryz.underlying341 ty331 (look_tc rfl hb) (look_tc rfl hb) rfl (idx_some (condM_some hk4 hb))) ?_
    refine Qg (fun hb => r_loadR (i := 6) (k := k4) (Lens.id Ref) (r := (lget s1.2 k4)) ty331 (look_tc rfl hb) rfl (idx_some (condM_some hk4 hb)).1 rfl rfl) ?_
    obtain ⟨y5,hy5,h⟩:=Qbs h
    refine Sq.gS (fun hb => HS.callQ 8 rfl en252 (C_trie_node_empty (condM_some hy5 hb)) ⟨look_tc rfl hb, trivial⟩) rfl rfl rfl rfl rfl ?_
    refine Qan ?_
    refine Qnx ?_
    refine Qcd h (fun h=>?_) fun h=>?_
    ·refine Qkn ?_
     refine Wp.seq ?_
     refine Wp.block ?_
     obtain ⟨k8,hk8,h⟩:=Qbs h
     obtain ⟨k9,hk9,h⟩:=Qbs h
     obtain ⟨o5,ho5,h⟩:=Qbs h
     refine Qwl [0, 1, 2, 4, 6, 8, 9, 10, 12, 13, 22, 31, 63, 64, 65, 66, 67, 68, 69, 70, 71, 72] ?_
     refine Wp.drawT 10 8 mixed (Hp 75 [] (5 :: []) _ :: Hp 76 [] [] _ :: Hp 77 (0 :: 1 :: []) (6 :: []) _ :: Hp 78 (2 :: []) (6 :: []) _ :: Hp 79 [] (3 :: []) _ :: Hp 80 [] [] _ :: Hp 81 (4 :: 5 :: []) (1 :: []) _ :: Hp 82 (6 :: []) (1 :: []) _ :: Hp 83 (3 :: []) [] _ :: Hp 84 (8 :: []) [] _ :: []) _ (0 :: 1 :: 2 :: 4 :: 6 :: 8 :: 9 :: 10 :: 12 :: 13 :: 22 :: 31 :: 63 :: 64 :: 65 :: 66 :: 67 :: 68 :: 69 :: 70 :: 71 :: 72 :: []) rfl rfl (by kernel_rfl) (by kernel_rfl) ⟨HeadD.q (Dv fun hd E' L' hE hL => r_loadH (i := 5) (q := 0) (β := List Ref) (γ := Ref) ty341 (look_t (hE _ _ rfl)) (hL 5 _ rfl rfl) rfl), HeadD.q (Dm), HeadD.q (Dv fun hd E' L' hE hL => r_iaO (i := 6) (k := k8) (xs := (s1.2 : List Ref)) Tryz.underlying341 ty331 (look_t (hE _ _ rfl)) (look_t (hE _ _ rfl)) (hL 6 _ rfl rfl) (idx_some hk8)), HeadD.q (Dv fun hd E' L' hE hL => r_loadR (i := 6) (k := k8) (Lens.id Ref) (r := (lget s1.2 k8)) ty331 (look_t (hE _ _ rfl)) (hL 6 _ rfl rfl) (idx_some hk8).1 rfl rfl), HeadD.q (Dv fun hd E' L' hE hL => r_loadH (i := 3) (q := 0) (β := List Int) (γ := Int) ty63 (look_t (hE _ _ rfl)) (hL 3 _ rfl rfl) rfl), HeadD.q (Dm), HeadD.q (Dv fun hd E' L' hE hL => r_iaO (i := 1) (k := k9) (xs := (s1.1 : List Int)) Tryz.underlying63 ty3 (look_t (hE _ _ rfl)) (look_t (hE _ _ rfl)) (hL 1 _ rfl rfl) (idx_some hk9)), HeadD.q (Dv fun hd E' L' hE hL => r_loadR (i := 1) (k := k9) (Lens.id Int) (r := (lget s1.1 k9)) ty3 (look_t (hE _ _ rfl)) (hL 1 _ rfl rfl) (idx_some hk9).1 rfl rfl), HeadD.q (Dv fun hd E' L' hE hL => r_nck (look_ref (look_t (hE _ _ rfl)) ho5)), HeadD.q (D1 (r_fa fd335_0)), trivial⟩ fun hd2 => ?_
     refine Sq.eqL (L2 := (⟨some D, .dfr⟩ :: ⟨g1.1.1, .row 3 (s1.1 : List Int) g1.1.2⟩ :: ⟨none, .row 3 (([] : List Int) : List Int) 0⟩ :: ⟨some p3, .varX ([] : List Int) [(0, slv g1.1.1 s1.1.length g1.1.2)]⟩ :: ⟨none, .row 331 (([] : List Ref) : List Ref) 0⟩ :: ⟨some p2, .varX ([] : List Ref) [(0, slv g1.2.1 s1.2.length g1.2.2)]⟩ :: ⟨g1.2.1, .row 331 (s1.2 : List Ref) g1.2.2⟩ :: ⟨some p1, .var (x1 : T_api_Value)⟩ :: Ents s2.2)) rfl ?_
     refine Sq.le (E' := [(0, VP.of (x0)), (1, VP.of (x1)), (2, VP.of (x2)), (4, VP.eq (.pointer (some ⟨p1, 0, none⟩))), (6, VP.of (false)), (8, VP.of (y1.2)), (9, VP.eq (.pointer (some ⟨p2, 0, none⟩))), (10, VP.eq (.pointer (some ⟨p3, 0, none⟩))), (12, VP.of (lget s1.2 k3)), (13, VP.of (s2.1)), (22, VP.of (!y1.2)), (31, VP.clo 255 [VP.ptr y2.1, VP.ptr y2.2.1, VP.ptr y2.2.2]), (63, VP.of (s2.1)), (64, VP.of (decide (s2.1 ≥ 0))), (65, VP.of (decide (s2.1 ≥ 0))), (66, VP.cond ((decide (s2.1 ≥ 0)) = true) (VP.eq (slv g1.2.1 s1.2.length g1.2.2))), (67, VP.cond ((decide (s2.1 ≥ 0)) = true) (VP.of (s2.1))), (68, VP.cond ((decide (s2.1 ≥ 0)) = true) (VP.of (w64 (s2.1 + 1)))), (69, VP.cond ((decide (s2.1 ≥ 0)) = true) (VP.eq (.pointer (some ⟨g1.2.1.getD 0, k4 * 1, none⟩)))), (70, VP.cond ((decide (s2.1 ≥ 0)) = true) (VP.of (lget s1.2 k4))), (71, VP.cond ((decide (s2.1 ≥ 0)) = true) (VP.of (y5))), (72, VP.of ((decide (s2.1 ≥ 0)) && y5)), (75, VP.eq (slv g1.2.1 s1.2.length g1.2.2)), (76, VP.of (s2.1)), (77, VP.eq (.pointer (some ⟨g1.2.1.getD 0, k8 * 1, none⟩))), (78, VP.of (lget s1.2 k8)), (79, VP.eq (slv g1.1.1 s1.1.length g1.1.2)), (80, VP.of (s2.1)), (81, VP.eq (.pointer (some ⟨g1.1.1.getD 0, k9 * 1, none⟩))), (82, VP.of (lget s1.1 k9)), (83, VP.eq (.pointer (some ⟨o5, 0, none⟩))), (84, VP.eq (.pointer (some ⟨o5, 0 + 0, none⟩)))]) (.same rfl (.same rfl (.same rfl (.same rfl (.same rfl (.same rfl (.same rfl (.same rfl (.same rfl (.same rfl (.same rfl (.same rfl (.same rfl (.same rfl (.same rfl (.same rfl (.same rfl (.same rfl (.same rfl (.same rfl (.same rfl (.same rfl (.same rfl (.same rfl (.same rfl (.same rfl (.same rfl (.same rfl (.same rfl (.same rfl (.same rfl (.same rfl .nil)))))))))))))))))))))))))))))))) ?_
     obtain ⟨k10,hk10,h⟩:=Qbs h
     refine Qv (r_ia (k := k10) ar333 (look_t rfl) (look_t rfl) (idx_some hk10)) ?_
     obtain ⟨c5,hc5,h⟩:=Qbs h
     obtain ⟨hp3,hhp3,h⟩:=Qbs h
     refine Sq.storeQ (k' := Cell.c335 ({ c5 with f_children := vset c5.f_children k10 (none : Ref) } : T_trie_node)) 8 rfl (((Lens.id T_trie_node).comp le_T_trie_node_children).comp (Lens.idx (α := Ref) 2 k10 (idx_some hk10).1)) (v := ((none : Ref) : Ref)) ty331 (look_t rfl) (look_nilref) (rds335 hc5) rfl rfl rfl rfl (some_in hhp3) ?_
     refine Sq.nil ?_
     refine To.bnorm ?_
     refine To.next ?_
     refine Wp.reg ?_
     refine Qm ?_
     refine Q2 r_sub ?_
     refine Qa ?_
     refine Sq.nil ?_
     obtain rfl:=some_in h
     exact Qrd () 0
    ·refine Wp.exit ?_
     refine To.exit ?_
     obtain rfl:=some_in h
     exact Qlv () 0
   ·clear hl
    refine To.bexit ?_
    refine To.next ?_
    refine Wp.seq ?_
    refine Qsr ?_
    refine Qm ?_
    refine Qv (r_nck (look_ref (look_t rfl) ho1)) ?_
    refine Q1 (r_fa fd337_1) ?_
    obtain ⟨c6,hc6,h⟩:=Qbs h
    refine Qv (r_loadM ((Lens.id T_trie_Trie).comp le_T_trie_Trie_root) (r := c6.f_root) ty331 (look_t rfl) (pmem (n := 8) rfl (rds337 hc6) rfl) rfl rfl) ?_
    obtain ⟨y6,hy6,h⟩:=Qbs h
    refine Sq.vS (HS.callQ 8 rfl en252 (C_trie_node_empty hy6) ⟨look_t rfl, trivial⟩) rfl rfl rfl ?_
    refine Qnx ?_
    obtain ⟨m1,hm1,h⟩:=Qbs h
    refine Wp.condM (γ := Unit) (fun g3 => [(0, VP.of (x0)), (1, VP.of (x1)), (2, VP.of (x2)), (4, VP.eq (.pointer (some ⟨p1, 0, none⟩))), (6, VP.of (false)), (8, VP.of (y1.2)), (9, VP.eq (.pointer (some ⟨p2, 0, none⟩))), (10, VP.eq (.pointer (some ⟨p3, 0, none⟩))), (12, VP.of (lget s1.2 k3)), (13, VP.of (e2.1)), (22, VP.of (!y1.2)), (31, VP.clo 255 [VP.ptr y2.1, VP.ptr y2.2.1, VP.ptr y2.2.2]), (72, VP.of (e2.2.1)), (90, VP.of (y6))]) (fun g3 => (⟨some D, .dfr⟩ :: ⟨g1.1.1, .row 3 (s1.1 : List Int) g1.1.2⟩ :: ⟨none, .row 3 (([] : List Int) : List Int) 0⟩ :: ⟨some p3, .varX ([] : List Int) [(0, slv g1.1.1 s1.1.length g1.1.2)]⟩ :: ⟨none, .row 331 (([] : List Ref) : List Ref) 0⟩ :: ⟨some p2, .varX ([] : List Ref) [(0, slv g1.2.1 s1.2.length g1.2.2)]⟩ :: ⟨g1.2.1, .row 331 (s1.2 : List Ref) g1.2.2⟩ :: ⟨some p1, .var (x1 : T_api_Value)⟩ :: Ents m1)) (look_t rfl) (fun g3 => ?_) (fun hm hc => ?_) (fun hm hc => ?_)
    ·clear hm1
     refine To.next ?_
     refine Qsr ?_
     refine Qa ?_
     refine Qnx ?_
     refine Wp.ret ?_
     obtain rfl:=some_in h
     refine To.endD 0 rfl rfl ?_
     exact To.endO1 () (.cons _ (.cons _ (.cons _ (.cons _ (.cons _ (.cons _ (.cons _ (.cons _ (.refl _))))))))) rfl rfl (rvo_t rfl)
    ·have h := cond_t hc hm1
     refine Wp.reg ?_
     refine Qm ?_
     refine Qv (r_nck (look_ref (look_t rfl) ho1)) ?_
     refine Q1 (r_fa fd337_1) ?_
     obtain ⟨hp4,hhp4,h⟩:=Qbs h
     refine Sq.storeQ (k' := Cell.c337 ({ c6 with f_root := (none : Ref) } : T_trie_Trie)) 8 rfl ((Lens.id T_trie_Trie).comp le_T_trie_Trie_root) (v := ((none : Ref) : Ref)) ty331 (look_t rfl) (look_nilref) (rds337 hc6) rfl rfl rfl rfl (some_in hhp4) ?_
     refine Sq.nil ?_
     obtain rfl:=some_in h
     exact Qmt 0 (hm ())
    ·have h := cond_f hc hm1
     refine Wp.skip ?_
     obtain rfl:=some_in h
     exact Qmt 0 (hm ())
  ·exact Empty.elim q1
end Go.Proofs.YtmnggbjcnoffeaaGreat

namespace Go.Proofs.YtmnggbjcnoffeaaGreat
open Go Gv
set_option linter.unusedVariables false
set_option linter.unusedSimpArgs false
set_option maxRecDepth 100000
set_option maxHeartbeats 2000000
theorem Ch0_1_ordered_List_Put {x0 : T_ordered_List} {x1 : T_api_Installed} {pp0 : Nat} {key00_0 : Option Nat} {cap00_0 : Nat} {r : Bool × T_ordered_List} (h : Lh0_1_ordered_List_Put x0 x1 = some r) : MeetsO Tryz.prog 267 [VP.eq (.pointer (some ⟨pp0, 0, none⟩)), VP.of (x1)] [⟨some pp0, .varX (({ x0 with f_l := [] } : T_ordered_List) : T_ordered_List) [(10, slv key00_0 x0.f_l.length cap00_0)]⟩, ⟨key00_0, .row 52 (x0.f_l : List T_api_Installed) cap00_0⟩] (δ := (Option Nat × Nat)) (fun d => VP.of (r.1)) (fun d => [⟨some pp0, .varX (({ r.2 with f_l := [] } : T_ordered_List) : T_ordered_List) [(10, slv d.1 (r.2.f_l).length d.2)]⟩, ⟨d.1, .row 52 (r.2.f_l : List T_api_Installed) d.2⟩]) := by
 unfold Lh0_1_ordered_List_Put at h
 refine MeetsO.of Tryz.func267 rfl Tryz.ntmps267 rfl fun W A => ?_
 refine Qsr ?_
 refine Qbx fun p1 => ?_
 refine Qa ?_
 refine Qns ?_
 refine Qsr ?_
 refine Qm ?_
 refine Qv (r_pnil Tryz.underlying170 (look_t rfl)) ?_
 refine Qm ?_
 refine Qg1 r_move ?_
 refine Qg1 (r_fa fd52_1) ?_
 refine Qg (fun hb => r_load (i := 0) ((Lens.id T_api_Installed).comp le_T_api_Installed_Number) (r := x1.f_Number) ty3 (look_tc rfl hb) rfl rfl rfl) ?_
 obtain ⟨y1,hy1,h⟩:=Qbs h
 refine Sq.gS (fun hb => HS.call [1, 2] en272 (Ch0_1_ordered_List_find (condM_some hy1 hb)) ⟨look_tc rfl hb, look_tc rfl hb, trivial⟩ rfl ⟨rfl, rfl, trivial⟩ rfl) rfl rfl rfl rfl rfl ?_
 refine Qg2 r_geq ?_
 refine Qor ?_
 refine Qnx ?_
 refine Qcd h (fun h=>?_) fun h=>?_
 ·refine Qsr ?_
  refine Qa ?_
  refine Qnx ?_
  refine Wp.ret ?_
  refine To.ret ?_
  refine To.bring 2 rfl ?_
  refine To.bring 2 rfl ?_
  obtain rfl:=some_in h
  exact Qo1 (key00_0, cap00_0)
 ·refine Qkn ?_
  refine Qsr ?_
  refine Qm ?_
  refine Qv (r_mkB (look_t rfl)) ?_
  refine Qa ?_
  refine Qns ?_
  obtain ⟨y2,hy2,h⟩:=Qbs h
  refine Qwl [0, 1, 3, 4, 5, 8, 9, 10, 11, 12, 13, 14, 15, 16, 17, 18] ?_
  refine Wp.drawD mixed (Hp 20 [] [] _ :: Hp 21 (0 :: []) [] _ :: Hp 22 (1 :: []) [] _ :: Hp 23 (2 :: []) (1 :: []) _ :: Hp 24 [] (0 :: []) _ :: Hp 25 [] [] _ :: Hp 26 (3 :: 4 :: 5 :: []) (1 :: 2 :: []) _ :: Hp 19 (6 :: []) [] _ :: Hp 27 (7 :: []) [] _ :: Hp 28 (7 :: []) [] _ :: Hp 6 (8 :: []) [] _ :: Hp 7 (9 :: []) [] _ :: []) _ (0 :: 1 :: 3 :: 4 :: 5 :: 8 :: 9 :: 10 :: 11 :: 12 :: 13 :: 14 :: 15 :: 16 :: 17 :: 18 :: []) rfl rfl (by kernel_rfl) ⟨Dm, D1 r_nck, D1 (r_fa fd228_1), Dv fun hd E' L' hE hL => r_loadH (i := 1) (q := 0) (β := T_ordered_List) (γ := T_api_Installed) ty38 (look_t (hE _ _ rfl)) (hL 1 _ rfl rfl) rfl, Dl0 0 ty52, Dm, Dv fun hd E' L' hE hL => HR.lendTS (β := T_ordered_List) (γ := T_api_Installed) (b' := (x0 : T_ordered_List)) ((Lens.id T_ordered_List).comp le_T_ordered_List_l) 1 2 0 23 rfl (hL 1 _ rfl rfl) (hL 2 _ rfl rfl) rfl rfl rfl (hE _ _ rfl) (flat_tup2 flat_int flat_bool) (HR.lend0 1 (gss (gso rfl (hL 1 _ rfl rfl))) (flat_tup2 flat_int flat_bool) (HR.lendB2 (F := (fun a0 a1 => Lf0_ordered_List_order x0 a0 a1)) 1 25 (hE _ _ rfl) (gss (gss (gso rfl (hL 1 _ rfl rfl)))) en273 (fun _ _ _ h => Cf0_ordered_List_order h) (flat_tup2 flat_int flat_bool) (r_call en274 (C_slices_BinarySearchFunc_api_Installed hy2) ⟨look_t rfl, look_t (hE _ _ rfl), look_t rfl, trivial⟩))), Dm, Dv fun hd E' L' hE hL => r_ext (look_t (hE _ _ rfl)) rfl, Dv fun hd E' L' hE hL => r_ext (look_t (hE _ _ rfl)) rfl, Dv fun hd E' L' hE hL => r_asg (look_t (hE _ _ rfl)), Dv fun hd E' L' hE hL => r_asg (look_t (hE _ _ rfl)), trivial⟩ fun hd1 => ?_
  refine To.eqL (L2 := [⟨some p1, .var (x1 : T_api_Installed)⟩, ⟨some pp0, .varX (({ x0 with f_l := [] } : T_ordered_List) : T_ordered_List) [(10, slv key00_0 x0.f_l.length cap00_0)]⟩, ⟨key00_0, .row 52 (x0.f_l : List T_api_Installed) cap00_0⟩]) rfl ?_
  refine Qtl [0, 1, 3, 4, 5, 6, 7, 8, 9, 10, 11, 12, 13, 14, 15, 16, 17, 18, 19, 20, 21, 22, 23, 24, 25, 26, 27, 28] ?_
  refine To.next ?_
  refine Wp.seq ?_
  obtain ⟨y3,hy3,h⟩:=Qbs h
  obtain ⟨y4,hy4,h⟩:=Qbs h
  refine Wp.keep 1 ?_
  refine Qwl [0, 1, 3, 4, 5, 6, 7, 8, 9, 10, 11, 12, 13, 14, 15, 16, 17, 18, 19, 20, 21, 22, 23, 24, 25, 26, 27, 28] ?_
  refine Wp.drawD mixed (Hp 29 [] [] _ :: Hp 30 [] [] _ :: Hp 31 (1 :: []) [] _ :: Hp 32 (2 :: []) [] _ :: Hp 33 (3 :: []) (1 :: []) _ :: Hp 34 [] [] _ :: Hp 35 [] (0 :: []) _ :: Hp 36 (6 :: []) [] _ :: ⟨some 37, (7 :: []), (3 :: []), (3 :: []), fun hd => VP.eq (slv (hd 8 0) [y3].length 1), fun hd _ => ⟨(hd 8 0), .row 52 ([y3] : List T_api_Installed) 1⟩⟩ :: ⟨some 38, (4 :: 5 :: 8 :: []), (2 :: 3 :: []), (2 :: 3 :: []), fun hd => VP.eq (slv (hd 9 0) y4.length ((hd 9 1).getD 0)), fun hd j => bif Nat.beq j 2 then ⟨(hd 9 0), .row 52 (y4 : List T_api_Installed) ((hd 9 1).getD 0)⟩ else ⟨none, .dead⟩⟩ :: Hp 39 (0 :: []) [] _ :: Hp 40 (10 :: []) [] _ :: ⟨none, (4 :: 9 :: 11 :: []), (1 :: []), (1 :: []), fun _ => VP.any, fun hd _ => ⟨some pp0, .varX (({ x0 with f_l := [] } : T_ordered_List) : T_ordered_List) [(10, slv (hd 9 0) y4.length ((hd 9 1).getD 0))]⟩⟩ :: []) _ (0 :: 1 :: 3 :: 4 :: 5 :: 6 :: 7 :: 8 :: 9 :: 10 :: 11 :: 12 :: 13 :: 14 :: 15 :: 16 :: 17 :: 18 :: 19 :: 20 :: 21 :: 22 :: 23 :: 24 :: 25 :: 26 :: 27 :: 28 :: []) rfl rfl (by kernel_rfl) ⟨Dm, Dm, D1 r_nck, D1 (r_fa fd228_1), Dv fun hd E' L' hE hL => r_loadH (i := 1) (q := 0) (β := T_ordered_List) (γ := T_api_Installed) ty38 (look_t (hE _ _ rfl)) (hL 1 _ rfl rfl) rfl, Dm, Dl0 0 ty52, Dv fun hd E' L' hE hL => r_call en87 (C_own_Installed hy3) ⟨look_t (hE _ _ rfl), trivial⟩, ?_, ?_, D1 r_nck, D1 (r_fa fd228_1), ?_, trivial⟩ fun hd2 => ?_
  ·intro hd E' L' hE hL
   refine Sq.bslO (α := T_api_Installed) (r := [y3]) Tryz.underlying38 ty52 zr52 rfl rfl (.cons (by simp) (look_t (hE _ _ rfl)) (.nil)) rfl fun key1 => ?_
   refine Sq.nil ?_
   refine To.place 3 (hL 3 _ rfl rfl) ?_
   exact To.fin (gm [key1]) rfl rfl
  ·intro hd E' L' hE hL
   refine Sq.callO2 (fun q => ⟨q.1, .row 52 (y4 : List T_api_Installed) q.2⟩) 2 3 en275 (Cop0_2_slices_Insert_api_Installed hy4) ⟨look_t (hE _ _ rfl), look_t (hE _ _ rfl), look_t (hE _ _ rfl), trivial⟩ rfl (hL 2 _ rfl rfl) (hL 3 _ rfl rfl) (fun _ => rfl) rfl fun ⟨key2, cap1⟩ => ?_
   refine Sq.nil ?_
   exact To.fin (gm [key2, some cap1]) rfl rfl
  ·intro hd E' L' hE hL
   refine Sq.storeH (i := 1) (γ := T_api_Installed) (b' := (({ x0 with f_l := [] } : T_ordered_List) : T_ordered_List)) (os' := [(10, slv (hd 9 0) y4.length ((hd 9 1).getD 0))]) ((Lens.id T_ordered_List).comp le_T_ordered_List_l) ty38 (look_t (hE _ _ rfl)) (look_t (hE _ _ rfl)) slv_one (hL 1 _ rfl rfl) rfl rfl rfl ?_
   refine Sq.nil ?_
   exact To.fin (gm []) rfl rfl
  refine To.eqL (L2 := [⟨some p1, .var (x1 : T_api_Installed)⟩, ⟨some pp0, .varX (({ x0 with f_l := [] } : T_ordered_List) : T_ordered_List) [(10, slv (hd2 9 0) y4.length ((hd2 9 1).getD 0))]⟩, ⟨(hd2 9 0), .row 52 (y4 : List T_api_Installed) ((hd2 9 1).getD 0)⟩, ⟨none, .dead⟩]) rfl ?_
  refine Qtl [0, 1, 3, 4, 5, 6, 7, 8, 9, 10, 11, 12, 13, 14, 15, 16, 17, 18, 19, 20, 21, 22, 24, 25, 26, 27, 28, 29, 30, 31, 32, 34, 35, 36, 38, 39, 40] ?_
  refine To.bring 3 rfl ?_
  refine To.next ?_
  refine Qsr ?_
  refine Qa ?_
  refine Qnx ?_
  refine Wp.ret ?_
  refine To.bring 3 rfl ?_
  refine To.bring 3 rfl ?_
  obtain rfl:=some_in h
  exact Qo1 ((hd2 9 0), ((hd2 9 1).getD 0))
theorem CI_index_finder_find {hp : Pool Cell} {y : T_index_finder} {x0 : T_api_Entry} {r : Int × Bool} (h : LI_index_finder_find hp y x0 = some r) : MeetsV Tryz.prog "matchguard/index.find" (VP.of y) [VP.of (x0)] ([] ++ Ents hp) (δ := Unit) (fun _ => VP.tup [VP.of (r.1), VP.of (r.2)]) (fun _ => [] ++ Ents hp) := by
  cases y with
  | nil => cases h
  | c166 z => exact MeetsV.of mt166_227 (fun A W u hu => fi132_166 hu) (C_index_hashed_find h)
  | c169 z => exact MeetsV.of mt169_235 (fun A W u hu => fi132_169 hu) (C_index_prefixed_find h)
  | c173 z => exact MeetsV.of mt173_260 (fun A W u hu => fi132_173 hu) (C_index_sorted_find h)
theorem C_index_prefixed_remove {hp : Pool Cell} {x0 : T_index_prefixed} {x1 : T_api_Installed}  {r : (Pool Cell)} (h : L_index_prefixed_remove hp x0 x1 = some r) : MeetsO Tryz.prog 238 [VP.of (x0), VP.of (x1)] ([] ++ Ents hp) (δ := Unit) (fun d => VP.tup []) (fun d => [] ++ Ents r) := by
 unfold L_index_prefixed_remove at h
 refine MeetsO.of Tryz.func238 rfl Tryz.ntmps238 rfl fun W A => ?_
 refine Qsr ?_
 refine Qbx fun p1 => ?_
 refine Qbx fun p2 => ?_
 refine Qnr ?_
 refine Ql0 1 ty169 ?_
 refine Q1 (r_fa fd52_0) ?_
 refine Qld 0 le_T_api_Installed_Entry ty50 ?_
 obtain ⟨y1,hy1,h⟩:=Qbs h
 refine Qcl en239 (C_index_prefixed_prefix hy1) ?_
 refine Qm ?_
 refine Qxt ?_
 refine Qxt ?_
 refine Qxt ?_
 refine Qal zr320 fun p3 => ?_
 refine Qal zr43 fun p4 => ?_
 refine Qs0 1 ty320 ?_
 refine Qs0 0 ty43 ?_
 refine Qa ?_
 refine Qns ?_
 obtain ⟨o1,ho1,h⟩:=Qbs h
 obtain ⟨c1,hc1,h⟩:=Qbs h
 obtain ⟨z1,hz1,h⟩:=Qbs h
 refine Wp.draw mixed 6 [some 15, some 16, some 17, some 18, some 19, some 20] [[], [0], [], [1, 2], [], []] [.val _, .val _, .val _, .val _, .val _, .val _] [false, false, false, false, false, false] (by kernel_rfl) rfl rfl rfl (fun ps1 => ⟨H1 (r_fa fd169_2), Hld 3 le_T_index_prefixed_tries ty167, Hl0 1 ty320, Hv fun L' hL => r_lookM (r := z1) Tryz.underlying167 kt320 zr321 (look_mref (look_t rfl) ho1) (look_t rfl) (dmem (fun i e q => hL i e q rfl) (pmem (n := 4) rfl (rds167 hc1) rfl)) (some_in hz1), Hl0 0 ty43, Hm, trivial⟩) fun ps1 => ?_
 obtain ⟨y2,hy2,h⟩:=Qbs h
 refine Sq.callP 4 0 rfl en245 (C_trie_Trie_Remove hy2) rfl rfl ⟨look_t rfl, look_t rfl, look_t rfl, trivial⟩ rfl fun q1 => ?_
 refine Sq.eqL (L2 := (⟨some p4, .var (y1.2.1 : T_api_Value)⟩ :: ⟨some p3, .var (y1.1 : Vector T_api_Value 4)⟩ :: ⟨some p2, .var (x1 : T_api_Installed)⟩ :: ⟨some p1, .var (x0 : T_index_prefixed)⟩ :: Ents y2.2)) rfl ?_
 refine Qnr ?_
 refine Q1 (r_fa fd169_2) ?_
 refine Qld 3 le_T_index_prefixed_tries ty167 ?_
 refine Ql0 1 ty320 ?_
 obtain ⟨c2,hc2,h⟩:=Qbs h
 obtain ⟨z2,hz2,h⟩:=Qbs h
 refine Qv (r_lookM (r := z2) Tryz.underlying167 kt320 zr321 (look_mref (look_t rfl) ho1) (look_t rfl) (pmem (n := 4) rfl (rds167 hc2) rfl) (some_in hz2)) ?_
 obtain ⟨y3,hy3,h⟩:=Qbs h
 refine Sq.vS (HS.callQ 4 rfl en246 (C_trie_Trie_Len hy3) ⟨look_t rfl, trivial⟩) rfl rfl rfl ?_
 refine Q2 r_eql ?_
 refine Qnx ?_
 obtain ⟨m1,hm1,h⟩:=Qbs h
 refine Wp.condM (γ := Unit) (fun g1 => [(0, VP.of (x0)), (1, VP.of (x1)), (2, VP.eq (.pointer (some ⟨p1, 0, none⟩))), (3, VP.eq (.pointer (some ⟨p2, 0, none⟩))), (4, VP.eq (.pointer (some ⟨p3, 0, none⟩))), (5, VP.eq (.pointer (some ⟨p4, 0, none⟩))), (6, VP.of (y1.2.2)), (27, VP.of (y3 == 0))]) (fun g1 => (⟨some p4, .var (y1.2.1 : T_api_Value)⟩ :: ⟨some p3, .var (y1.1 : Vector T_api_Value 4)⟩ :: ⟨some p2, .var (x1 : T_api_Installed)⟩ :: ⟨some p1, .var (x0 : T_index_prefixed)⟩ :: Ents m1)) (look_t rfl) (fun g1 => ?_) (fun hm hc => ?_) (fun hm hc => ?_)
 ·clear hm1
  refine To.endn ?_
  obtain rfl:=some_in h
  exact To.endO0 () (.cons _ (.cons _ (.cons _ (.cons _ (.refl _))))) rfl rfl
 ·have h := cond_t hc hm1
  refine Wp.reg ?_
  refine Q1 (r_fa fd169_2) ?_
  refine Qld 3 le_T_index_prefixed_tries ty167 ?_
  refine Ql0 1 ty320 ?_
  obtain ⟨hp1,hhp1,h⟩:=Qbs h
  refine Sq.mdelQ (k' := Cell.c167 (mdel c2 y1.1)) 4 rfl Tryz.underlying167 kt320 (look_mref (look_t rfl) ho1) (look_t rfl) (rds167 hc2) rfl rfl rfl (some_in hhp1) ?_
  refine Sq.nil ?_
  obtain rfl:=some_in h
  exact Qmt 0 (hm ())
 ·have h := cond_f hc hm1
  refine Wp.skip ?_
  obtain rfl:=some_in h
  exact Qmt 0 (hm ())
end Go.Proofs.YtmnggbjcnoffeaaGreat

namespace Go.Proofs.YtmnggbjcnoffeaaGreat
open Go Gv
set_option linter.unusedVariables false
set_option linter.unusedSimpArgs false
set_option maxRecDepth 100000
set_option maxHeartbeats 2000000
theorem C_index_sorted_lookup {hp : Pool Cell} {x0 : T_index_sorted} {x1 : Vector T_api_Value 4}  {r : Int × Bool} (h : L_index_sorted_lookup hp x0 x1 = some r) : MeetsO Tryz.prog 261 [VP.of (x0), VP.of (x1)] ([] ++ Ents hp) (δ := Unit) (fun _ => VP.tup [VP.of (r.1), VP.of (r.2)]) (fun _ => [] ++ Ents hp) := by
 unfold L_index_sorted_lookup at h
 refine MeetsO.of Tryz.func261 rfl Tryz.ntmps261 rfl fun W A => ?_
 refine Qsr ?_
 refine Qbx fun p1 => ?_
 refine Qbx fun p2 => ?_
 refine Qa ?_
 refine Qa ?_
 refine Qnr ?_
 refine Q1 (r_fa fd173_0) ?_
 refine Qld 1 le_T_index_sorted_l ty170 ?_
 refine Ql0 0 ty45 ?_
 obtain ⟨o1,ho1,h⟩:=Qbs h
 obtain ⟨c1,hc1,h⟩:=Qbs h
 obtain ⟨y1,hy1,h⟩:=Qbs h
 refine Sq.vS (HS.obj 2 rfl (rds228 hc1) en266 (Ch0_1_ordered_List_Lookup hy1) rfl ⟨look_ref (look_t rfl) ho1, look_t rfl, trivial⟩) rfl rfl rfl ?_
 refine Qm ?_
 refine Qxt ?_
 refine Qxt ?_
 refine Qal zr52 fun p3 => ?_
 refine Qs0 0 ty52 ?_
 refine Qa ?_
 refine Qnr ?_
 refine Q1 (r_fa fd52_1) ?_
 refine Qld 0 le_T_api_Installed_Number ty3 ?_
 refine Qm ?_
 refine Qa ?_
 refine Qa ?_
 refine Qnx ?_
 refine Wp.ret ?_
 obtain rfl:=some_in h
 exact To.endO2 () (.cons _ (.cons _ (.cons _ (.refl _)))) rfl rfl (rvo_t rfl) (rvo_t rfl)
theorem C_index_sorted_put {hp : Pool Cell} {x0 : T_index_sorted} {x1 : T_api_Installed}  {Q : (Pool Cell) → Prop} (h : L_index_sorted_put hp x0 x1 Q) : MeetsO Tryz.prog 262 [VP.of (x0), VP.of (x1)] ([] ++ Ents hp) (δ := {r : (Pool Cell) // Q r} × Unit) (fun d => VP.tup []) (fun d => [] ++ Ents d.1.1) := by
 unfold L_index_sorted_put at h
 refine MeetsO.of Tryz.func262 rfl Tryz.ntmps262 rfl fun W A => ?_
 refine Qsr ?_
 refine Qbx fun p1 => ?_
 refine Qbx fun p2 => ?_
 refine Qnx ?_
 refine Wp.reg ?_
 refine Q1 (r_fa fd173_0) ?_
 refine Qld 1 le_T_index_sorted_l ty170 ?_
 refine Ql0 0 ty52 ?_
 obtain ⟨o1, ho1, h⟩ := Wm.of_bind h
 obtain ⟨c1, hc1, h⟩ := Wm.of_bind h
 obtain ⟨y1, hy1, h⟩ := Wm.of_bind h
 refine Sq.vP (OpS.obj 2 (fun q : Option Nat × Nat => Cell.c228 y1.2 q.1 q.2) rfl (rds228 hc1) en267 (Ch0_1_ordered_List_Put hy1) rfl (fun _ => rfl) ⟨look_ref (look_t rfl) ho1, look_t rfl, trivial⟩) rfl rfl rfl fun q1 => ?_
 replace h := Wm.any_bind h q1
 obtain ⟨hp1, hhp1, h⟩ := Wm.of_bind h
 refine Sq.eqL (L2 := (⟨some p2, .var (x1 : T_api_Installed)⟩ :: ⟨some p1, .var (x0 : T_index_sorted)⟩ :: Ents hp1)) (by rw [← some_in hhp1]; rfl) ?_
 refine Sq.nil ?_
 refine To.endn ?_
 exact To.endO0 (⟨⟨hp1, h⟩, ()⟩ : {r // _} × _) (.cons _ (.cons _ (.refl _))) rfl rfl
theorem C_index_Index_Find {hp : Pool Cell} {x0 : Ref} {x1 : T_api_Entry}  {r : T_api_Installed × Bool} (h : L_index_Index_Find hp x0 x1 = some r) : MeetsO Tryz.prog 40 [VP.of (x0), VP.of (x1)] ([] ++ Ents hp) (δ := Unit) (fun _ => VP.tup [VP.of (r.1), VP.of (r.2)]) (fun _ => [] ++ Ents hp) := by
 unfold L_index_Index_Find at h
 refine MeetsO.of Tryz.func40 rfl Tryz.ntmps40 rfl fun W A => ?_
 refine Qsr ?_
 refine Qbx fun p1 => ?_
 refine Qal zr52 fun p2 => ?_
 refine Qa ?_
 refine Qns ?_
 refine Qsr ?_
 refine Qm ?_
 refine Qv (r_refnil Tryz.underlying37 (look_t rfl)) ?_
 refine Qnx ?_
 refine Qcd h (fun h=>?_) fun h=>?_
 ·refine Qsr ?_
  refine Qbd bu52 zr52 (default : T_api_Installed) .nil ?_
  refine Qs0 0 ty52 ?_
  refine Qa ?_
  refine Qnx ?_
  refine Wp.ret ?_
  refine To.ret ?_
  obtain rfl:=some_in h
  exact To.endO2 () (.cons _ (.cons _ (.refl _))) rfl rfl (rvo_c (i := 0) ty52 rfl rfl) (rvo_t rfl)
 ·refine Qkn ?_
  refine Wp.seq ?_
  obtain ⟨o1,ho1,h⟩:=Qbs h
  obtain ⟨c1,hc1,h⟩:=Qbs h
  obtain ⟨y1,hy1,h⟩:=Qbs h
  refine Qwl [0, 1, 3, 4, 5, 8, 9] ?_
  refine Wp.drawQ 2 mixed (Hp 12 [] [] _ :: Hp 13 (0 :: []) [] _ :: Hp 14 (1 :: []) [] _ :: ⟨some 15, (2 :: []), [], [], fun _ => VP.of (c1.f_finder), fun _ _ => ⟨none, .dead⟩⟩ :: Hp 16 [] (1 :: []) _ :: ⟨some 17, (3 :: 4 :: []), [], [], fun _ => VP.tup [VP.of (y1.1), VP.of (y1.2)], fun _ _ => ⟨none, .dead⟩⟩ :: Hp 11 (5 :: []) [] _ :: Hp 18 (6 :: []) [] _ :: Hp 19 (6 :: []) [] _ :: Hp 6 (7 :: []) [] _ :: Hp 7 (8 :: []) [] _ :: []) _ (0 :: 1 :: 3 :: 4 :: 5 :: 8 :: 9 :: []) rfl rfl (by kernel_rfl) (by kernel_rfl) ⟨HeadD.q (Dm), HeadD.q (Dv fun hd E' L' hE hL => r_nck (look_ref (look_t (hE _ _ rfl)) ho1)), HeadD.q (D1 (r_fa fd135_2)), ?_, HeadD.q (Dl0 1 ty50), ?_, HeadD.q (Dm), HeadD.q (Dv fun hd E' L' hE hL => r_ext (look_t (hE _ _ rfl)) rfl), HeadD.q (Dv fun hd E' L' hE hL => r_ext (look_t (hE _ _ rfl)) rfl), HeadD.q (Dv fun hd E' L' hE hL => r_asg (look_t (hE _ _ rfl))), HeadD.q (Dv fun hd E' L' hE hL => r_asg (look_t (hE _ _ rfl))), trivial⟩ fun hd1 => ?_
  ·intro hd E' L' hE hL hP
   refine Qv (r_loadM ((Lens.id T_index_Index).comp le_T_index_Index_finder) (r := c1.f_finder) ty132 (look_t (hE _ _ rfl)) (pmem (n := 2) (hP.trans rfl) (rds135 hc1) rfl) rfl rfl) ?_
   refine Sq.nil ?_
   exact To.fin (gm []) rfl rfl
  ·intro hd E' L' hE hL hP
   refine Sq.vS (HS.invP 2 (hP.trans rfl) (CI_index_finder_find hy1) ⟨look_t (hE _ _ rfl), look_t (hE _ _ rfl), trivial⟩) rfl rfl rfl ?_
   refine Sq.nil ?_
   exact To.fin (gm []) rfl rfl
  refine To.eqL (L2 := (⟨some p2, .var ((default : T_api_Installed) : T_api_Installed)⟩ :: ⟨some p1, .var (x1 : T_api_Entry)⟩ :: Ents hp)) rfl ?_
  refine Qtl [0, 1, 3, 4, 5, 6, 7, 8, 9, 11, 12, 13, 14, 15, 16, 17, 18, 19] ?_
  refine To.next ?_
  refine Qsr ?_
  refine Qm ?_
  refine Qm ?_
  refine Qm ?_
  obtain ⟨y2,hy2,h⟩:=Qbs h
  refine Sq.vS (HS.callQ 2 rfl en72 (C_index_Index_entry hy2) ⟨look_t rfl, look_t rfl, look_t rfl, trivial⟩) rfl rfl rfl ?_
  refine Qxt ?_
  refine Qxt ?_
  refine Qs0 0 ty52 ?_
  refine Qa ?_
  refine Qnx ?_
  refine Wp.ret ?_
  obtain rfl:=some_in h
  exact To.endO2 () (.cons _ (.cons _ (.refl _))) rfl rfl (rvo_c (i := 0) ty52 rfl rfl) (rvo_t rfl)
theorem CI_index_finder_remove {hp : Pool Cell} {y : T_index_finder} {x0 : T_api_Installed} {Q : (Pool Cell) → Prop} (h : LI_index_finder_remove hp y x0 Q) : MeetsV Tryz.prog "matchguard/index.remove" (VP.of y) [VP.of (x0)] ([] ++ Ents hp) (δ := {r : (Pool Cell) // Q r} × Unit) (fun d => VP.tup []) (fun d => [] ++ Ents d.1.1) := by
  cases y with
  | nil => exact h.elim
  | c166 z =>
    obtain ⟨r, h1, h2⟩ := h
    exact MeetsV.of mt166_230 (fun A W u hu => fi132_166 hu) (MeetsO.map (fun d => (⟨r, h2⟩, d)) (fun _ => rfl) (fun _ => rfl) (C_index_hashed_remove h1))
  | c169 z =>
    obtain ⟨r, h1, h2⟩ := h
    exact MeetsV.of mt169_238 (fun A W u hu => fi132_169 hu) (MeetsO.map (fun d => (⟨r, h2⟩, d)) (fun _ => rfl) (fun _ => rfl) (C_index_prefixed_remove h1))
  | c173 z => exact MeetsV.of mt173_263 (fun A W u hu => fi132_173 hu) (C_index_sorted_remove h)
theorem CI_index_finder_lookup {hp : Pool Cell} {y : T_index_finder} {x0 : Vector T_api_Value 4} {r : Int × Bool} (h : LI_index_finder_lookup hp y x0 = some r) : MeetsV Tryz.prog "matchguard/index.lookup" (VP.of y) [VP.of (x0)] ([] ++ Ents hp) (δ := Unit) (fun _ => VP.tup [VP.of (r.1), VP.of (r.2)]) (fun _ => [] ++ Ents hp) := by
  cases y with
  | nil => cases h
  | c166 z => exact MeetsV.of mt166_228 (fun A W u hu => fi132_166 hu) (C_index_hashed_lookup h)
  | c169 z => exact MeetsV.of mt169_236 (fun A W u hu => fi132_169 hu) (C_index_prefixed_lookup h)
  | c173 z => exact MeetsV.of mt173_261 (fun A W u hu => fi132_173 hu) (C_index_sorted_lookup h)
end Go.Proofs.YtmnggbjcnoffeaaGreat

