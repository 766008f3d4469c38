/-
  Each function meets its functional program. Conditions: none.
-/
import Derived.Test.YtodajdohokmjnaaMc0
import Derived.Test.YtodajdohokmjnaaMd
namespace Go.Proofs.Ytodajdohokmjnaa
open Go Gv
set_option linter.unusedVariables false
set_option linter.unusedSimpArgs false
set_option maxRecDepth 100000
set_option maxHeartbeats 2000000
theorem C_ref01_Read {x0 : T_api_Value}  {r : (Vector Bool 128)} (h : L_ref01_Read x0 = some r) : Meets Try.prog 111 [VP.of (x0)] (VP.of (r)) := by
 unfold L_ref01_Read at h
 refine Meets.of Try.func111 rfl Try.ntmps111 rfl fun W A => ?_
 refine Qsr ?_
 refine Qbx fun p1 => ?_
 refine Qal zr222 fun p2 => ?_
 refine Qnr ?_
 refine Qal zr222 fun p3 => ?_
 refine Qns ?_
 refine Qsr ?_
 refine Qa ?_
 refine Qnx ?_
 refine Wp.block ?_
 obtain ⟨e1,hl,h⟩:=Qbs h
 refine Qlp (γ:=Unit) (δ:=Unit) hl [0, 1, 2, 3] (fun s1 g1 => [(4, VP.of (s1.1))]) (fun s1 g1 => [(0, ⟨some p3, .var (s1.2 : Vector Bool 128)⟩)]) (fun q1 => Exit.exit 0) (fun q1 g1 => [(4, VP.of (q1.1)), (6, VP.of (q1.2.1))]) (fun q1 g1 => [(0, ⟨some p3, .var (q1.2.2 : Vector Bool 128)⟩)]) () (fun s1 r h g1 => ?_) fun g1 => ?_
 ·clear hl
  refine Wp.seq ?_
  refine Qsr ?_
  refine Qm ?_
  refine Q2 r_lss ?_
  refine Qnx ?_
  refine Qcd h (fun h=>?_) fun h=>?_
  ·refine Qkn ?_
   refine Wp.seq ?_
   refine Wp.block ?_
   obtain ⟨k1,hk1,h⟩:=Qbs h
   obtain ⟨z1,hz1,h⟩:=Qbs h
   refine Wp.draw mixed 19 ((some 9) :: (some 10) :: (some 11) :: (some 12) :: (some 13) :: (some 14) :: (some 15) :: (some 16) :: (some 17) :: (some 18) :: (some 19) :: (some 20) :: (some 21) :: (some 22) :: (some 23) :: (some 24) :: (some 25) :: (some 26) :: none :: []) ([] :: [] :: [1] :: [] :: [3] :: [] :: [5] :: [4, 6] :: [7] :: [8] :: [] :: [10] :: [] :: [12] :: [11, 13] :: [14] :: [15] :: [0] :: [9, 17] :: []) (.val _ :: .val _ :: .val _ :: .val _ :: .val _ :: .val _ :: .val _ :: .val _ :: .val _ :: .val _ :: .val _ :: .val _ :: .val _ :: .val _ :: .val _ :: .val _ :: .val _ :: .val _ :: .sto 0 (.var (z1 : Vector Bool 128)) :: []) (false :: false :: false :: false :: false :: false :: false :: false :: false :: false :: false :: false :: false :: false :: false :: false :: false :: false :: true :: []) (by kernel_rfl) rfl rfl rfl (fun ps1 => ⟨Hm, Hm, H2 r_add, H1 (r_fa fd47_1), Hld 2 le_T_api_Value_Lo ty45, Hm, H1 (r_ci64 Try.underlying3 Try.underlying173), H2 r_shr64, Hv fun L' hL => r_and64 (look_t rfl) (look_u64 1 rfl), Hv fun L' hL => r_eql64 (look_t rfl) (look_u64 1 rfl), H1 (r_fa fd47_0), Hld 2 le_T_api_Value_Hi ty45, Hm, H1 (r_ci64 Try.underlying3 Try.underlying173), H2 r_shr64, Hv fun L' hL => r_and64 (look_t rfl) (look_u64 1 rfl), Hv fun L' hL => r_eql64 (look_t rfl) (look_u64 1 rfl), Hv fun L' hL => r_ia (k := k1) ar222 (look_t rfl) (look_t rfl) (idx_some hk1), ⟨_, _, rfl, fun L' hL => so_var (i := 0) ((Lens.id (Vector Bool 128)).comp (Lens.idx (α := Bool) 128 k1 (idx_some hk1).1)) (v := (((x0.f_Lo >>> (BitVec.ofInt 64 s1.1).toNat) &&& (1#64)) == (1#64) : Bool)) (b' := (z1 : Vector Bool 128)) ty4 (look_t rfl) (look_t rfl) (hL _ _ rfl) rfl (some_in hz1)⟩, trivial⟩) fun ps1 => ?_
   obtain ⟨k2,hk2,h⟩:=Qbs h
   refine Qv (r_ia (k := k2) ar222 (look_t rfl) (look_t rfl) (idx_some hk2)) ?_
   obtain ⟨z2,hz2,h⟩:=Qbs h
   refine Qsn 0 ((Lens.id (Vector Bool 128)).comp (Lens.idx (α := Bool) 128 k2 (idx_some hk2).1)) ty4 (hb := by exact hz2) ?_
   refine Sq.nil ?_
   refine To.bnorm ?_
   refine To.next ?_
   refine Wp.reg ?_
   refine Qm ?_
   refine Q2 r_add ?_
   refine Qa ?_
   refine Sq.nil ?_
   obtain rfl:=some_in h
   exact Qrd () 0
  ·refine Wp.exit ?_
   refine To.exit ?_
   obtain rfl:=some_in h
   exact Qlv () 0
 ·clear hl
  refine To.bexit ?_
  refine To.next ?_
  refine Qsr ?_
  refine Ql0 0 ty222 ?_
  refine Qs0 1 ty222 ?_
  refine Qnx ?_
  refine Wp.ret ?_
  obtain rfl:=some_in h
  exact To.end1 rfl (Qrc 1 ty222)
theorem C_ref01_Make {x0 : Vector Bool 128}  {r : T_api_Value} (h : L_ref01_Make x0 = some r) : Meets Try.prog 148 [VP.of (x0)] (VP.of (r)) := by
 unfold L_ref01_Make at h
 refine Meets.of Try.func148 rfl Try.ntmps148 rfl fun W A => ?_
 refine Qsr ?_
 refine Qbx fun p1 => ?_
 refine Qal zr47 fun p2 => ?_
 refine Qnr ?_
 refine Qal zr47 fun p3 => ?_
 refine Qns ?_
 refine Qsr ?_
 refine Qa ?_
 refine Qnx ?_
 refine Wp.block ?_
 obtain ⟨e1,hl,h⟩:=Qbs h
 refine Qlp (γ:=Unit) (δ:=Unit) hl [0, 1, 2, 3] (fun s1 g1 => [(4, VP.of (s1.1))]) (fun s1 g1 => [(0, ⟨some p3, .var (s1.2 : T_api_Value)⟩)]) (fun q1 => Exit.exit 0) (fun q1 g1 => [(4, VP.of (q1.1)), (6, VP.of (q1.2.1))]) (fun q1 g1 => [(0, ⟨some p3, .var (q1.2.2 : T_api_Value)⟩)]) () (fun s1 r h g1 => ?_) fun g1 => ?_
 ·clear hl
  refine Wp.seq ?_
  refine Qsr ?_
  refine Qm ?_
  refine Q2 r_lss ?_
  refine Qnx ?_
  refine Qcd h (fun h=>?_) fun h=>?_
  ·refine Qkn ?_
   refine Wp.seq ?_
   refine Wp.block ?_
   refine Wp.seq ?_
   refine Qsr ?_
   refine Qm ?_
   obtain ⟨k1,hk1,h⟩:=Qbs h
   refine Qv (r_ia (k := k1) ar222 (look_t rfl) (look_t rfl) (idx_some hk1)) ?_
   refine Qld 2 ((Lens.id (Vector Bool 128)).comp (Lens.idx (α := Bool) 128 k1 (idx_some hk1).1)) ty4 ?_
   refine Qnx ?_
   obtain ⟨m1,hm1,h⟩:=Qbs h
   refine Qcm (γ:=Unit) [0, 1, 2, 3, 4, 6, 11] (fun g2 => []) (fun g2 => [(0, ⟨some p3, .var (m1 : T_api_Value)⟩)]) (fun g2 => ?_) (fun hm hc => ?_) fun hm hc => ?_
   ·clear hm1
    refine To.next ?_
    refine Qsr ?_
    refine Qm ?_
    refine Q2 r_add ?_
    obtain ⟨k2,hk2,h⟩:=Qbs h
    refine Qv (r_ia (k := k2) ar222 (look_t rfl) (look_t rfl) (idx_some hk2)) ?_
    refine Qld 2 ((Lens.id (Vector Bool 128)).comp (Lens.idx (α := Bool) 128 k2 (idx_some hk2).1)) ty4 ?_
    refine Qnx ?_
    obtain ⟨m2,hm2,h⟩:=Qbs h
    refine Qcm (γ:=Unit) [0, 1, 2, 3, 4, 6, 11, 22] (fun g3 => []) (fun g3 => [(0, ⟨some p3, .var (m2 : T_api_Value)⟩)]) (fun g3 => ?_) (fun hm hc => ?_) fun hm hc => ?_
    ·clear hm2
     refine To.bnorm ?_
     refine To.next ?_
     refine Wp.reg ?_
     refine Qm ?_
     refine Q2 r_add ?_
     refine Qa ?_
     refine Sq.nil ?_
     obtain rfl:=some_in h
     exact Qrd () 0
    ·have h := cond_t hc hm2
     refine Wp.reg ?_
     refine Q1 (r_fa fd47_0) ?_
     refine Qld 0 le_T_api_Value_Hi ty45 ?_
     refine Qm ?_
     refine Q1 (r_ci64 Try.underlying3 Try.underlying173) ?_
     refine Qv (r_shl64 (look_u64 1 rfl) (look_t rfl)) ?_
     refine Q2 r_or64 ?_
     refine Q1 (r_fa fd47_0) ?_
     obtain ⟨z1,hz1,h⟩:=Qbs h
     refine Qsn 0 le_T_api_Value_Hi ty45 (hb := by exact hz1) ?_
     refine Sq.nil ?_
     obtain rfl:=some_in h
     exact Qmt 0 (hm ())
    ·have h := cond_f hc hm2
     refine Wp.skip ?_
     obtain rfl:=some_in h
     exact Qmt 0 (hm ())
   ·have h := cond_t hc hm1
    refine Wp.reg ?_
    refine Q1 (r_fa fd47_1) ?_
    refine Qld 0 le_T_api_Value_Lo ty45 ?_
    refine Qm ?_
    refine Q1 (r_ci64 Try.underlying3 Try.underlying173) ?_
    refine Qv (r_shl64 (look_u64 1 rfl) (look_t rfl)) ?_
    refine Q2 r_or64 ?_
    refine Q1 (r_fa fd47_1) ?_
    obtain ⟨z2,hz2,h⟩:=Qbs h
    refine Qsn 0 le_T_api_Value_Lo ty45 (hb := by exact hz2) ?_
    refine Sq.nil ?_
    obtain rfl:=some_in h
    exact Qmt 0 (hm ())
   ·have h := cond_f hc hm1
    refine Wp.skip ?_
    obtain rfl:=some_in h
    exact Qmt 0 (hm ())
  ·refine Wp.exit ?_
   refine To.exit ?_
   obtain rfl:=some_in h
   exact Qlv () 0
 ·clear hl
  refine To.bexit ?_
  refine To.next ?_
  refine Qsr ?_
  refine Ql0 0 ty47 ?_
  refine Qs0 1 ty47 ?_
  refine Qnx ?_
  refine Wp.ret ?_
  obtain rfl:=some_in h
  exact To.end1 rfl (Qrc 1 ty47)
theorem C_ref10_number {x0 : Int} {x1 : Int}  {r : Int} (h : L_ref10_number x0 x1 = some r) : Meets Try.prog 150 [VP.of (x0), VP.of (x1)] (VP.of (r)) := by
 unfold L_ref10_number at h
 refine Meets.of Try.func150 rfl Try.ntmps150 rfl fun W A => ?_
 refine Qsr ?_
 refine Qa ?_
 refine Qns ?_
 refine Wp.block ?_
 refine Qsr ?_
 refine Qm ?_
 refine Qm ?_
 refine Q2 r_lss ?_
 refine Qa ?_
 refine Qnx ?_
 refine Qcd h (fun h=>?_) fun h=>?_
 ·refine Qsr ?_
  refine Qa ?_
  refine Qnx ?_
  refine Wp.ret ?_
  refine To.bret ?_
  refine To.ret ?_
  obtain rfl:=some_in h
  exact Qe1
 ·refine Qsr ?_
  refine Qm ?_
  refine Qm ?_
  refine Q2 r_gtr ?_
  refine Qa ?_
  refine Qnx ?_
  refine Qcd h (fun h=>?_) fun h=>?_
  ·refine Qsr ?_
   refine Qa ?_
   refine Qnx ?_
   refine Wp.ret ?_
   refine To.bret ?_
   refine To.ret ?_
   obtain rfl:=some_in h
   exact Qe1
  ·refine Wp.skip ?_
   refine To.bnorm ?_
   refine To.next ?_
   refine Qsr ?_
   refine Qa ?_
   refine Qnx ?_
   refine Wp.ret ?_
   obtain rfl:=some_in h
   exact Qe1
theorem Cf0_ordered_List_Len {x0 : T_ordered_List}  {r : Int} (h : Lf0_ordered_List_Len x0 = some r) : Meets Try.prog 46 [VP.ptr x0] (VP.of (r)) := by
 unfold Lf0_ordered_List_Len at h
 refine Meets.of Try.func46 rfl Try.ntmps46 rfl fun W A => ?_
 refine Qsr ?_
 refine Qa ?_
 refine Qns ?_
 refine Qsr ?_
 refine Qm ?_
 refine Qv (r_pnilp Try.underlying82 (look_t rfl)) ?_
 refine Qnx ?_
 refine Wp.condF (look_t rfl) rfl ?_
 refine Qkn ?_
 refine Qsr ?_
 refine Qm ?_
 refine Q1 r_nckp ?_
 refine Qfp le_T_ordered_List_l fd161_1 ?_
 refine Q1 (r_loadp ty84) ?_
 refine Q1 (r_len Try.underlying84) ?_
 refine Qa ?_
 refine Qnx ?_
 refine Wp.ret ?_
 obtain rfl:=some_in h
 exact Qe1
theorem Cop0_slices_Delete_api_Installed {x0 : List T_api_Installed} {x1 x2 : Int} {key00 : Option Nat} {cap00 : Nat} {r : List T_api_Installed} (h : Lp0_slices_Delete_api_Installed x0 x1 x2 = some r) : MeetsO Try.prog 95 [VP.eq (slv key00 x0.length cap00), VP.of x1, VP.of x2] [⟨key00, .row 92 x0 cap00⟩] (δ := (Option Nat × Nat)) (fun d => VP.eq (slv d.1 r.length d.2)) (fun d => [⟨d.1, .row 92 r d.2⟩]) := by
  unfold Lp0_slices_Delete_api_Installed at h
  obtain ⟨m, n, rfl, rfl, hmn, hn, rfl⟩ := delM_some h
  refine MeetsO.of Try.func95 rfl Try.ntmps95 rfl fun W A => ?_
  refine Wp.seq ?_
  refine Wp.reg ?_
  refine Sq.v (r_asg look_own) rfl rfl rfl ?_
  refine Sq.nil ?_
  refine To.next ?_
  refine Wp.seq ?_
  refine Wp.reg ?_
  refine Sq.v (r_move (look_t rfl)) rfl rfl rfl ?_
  refine Sq.v (r_move (look_t rfl)) rfl rfl rfl ?_
  refine Sq.v (r_move (look_t rfl)) rfl rfl rfl ?_
  refine Sq.v (r_move (look_t rfl)) rfl rfl rfl ?_
  refine Sq.v (r_lenO (i := 0) (xs := x0) Try.underlying84 (look_t rfl) rfl rfl) rfl rfl rfl ?_
  refine Sq.v (r_slice3 (i := 0) (xs := x0) Try.underlying84 ty92 (look_t rfl) rfl (look_t rfl) (look_t rfl) (look_t rfl) ⟨hmn, hn, Nat.le_refl _⟩) rfl rfl rfl ?_
  refine Sq.nil ?_
  refine To.next ?_
  refine Wp.seq ?_
  refine Wp.seq ?_
  refine Wp.reg ?_
  refine Sq.v (r_move (look_t rfl)) rfl rfl rfl ?_
  refine Sq.v (r_move (look_t rfl)) rfl rfl rfl ?_
  refine Sq.v (r_eql (look_t rfl) (look_t rfl)) rfl rfl rfl ?_
  refine Sq.nil ?_
  refine To.next ?_
  refine Wp.cond (look_t rfl) (fun hc => ?_) (fun hc => ?_)
  · have hmn' : m = n := by simp only [beq_iff_eq] at hc; omega
    subst hmn'
    rw [List.take_append_drop]
    refine Wp.seq ?_
    refine Wp.reg ?_
    refine Sq.v (r_move (look_t rfl)) rfl rfl rfl ?_
    refine Sq.v (r_asg (look_t rfl)) rfl rfl rfl ?_
    refine Sq.nil ?_
    refine To.next ?_
    refine Wp.ret ?_
    exact To.endO1 (key00, cap00) (.cons_cons _ (List.nil_sublist _)) rfl rfl (rvo_t rfl)
  have hlt : m < n := by simp only [beq_eq_false_iff_ne] at hc; omega
  refine Wp.skip ?_
  refine To.next ?_
  refine Wp.some (i := 0) (xs := x0) rfl (by omega) fun p hp hcap hcm => ?_
  subst hp
  refine Wp.seq ?_
  refine Wp.reg ?_
  refine Sq.v (r_move (look_t rfl)) rfl rfl rfl ?_
  refine Sq.v (r_lenO (i := 0) (xs := x0) Try.underlying84 (look_t rfl) rfl rfl) rfl rfl rfl ?_
  refine Sq.v (r_asg (look_t rfl)) rfl rfl rfl ?_
  refine Sq.nil ?_
  refine To.next ?_
  have hlen : (x0.take m ++ x0.drop n ++ x0.drop (m + (x0.length - n))).length = x0.length := by simp only [List.length_append, List.length_take, List.length_drop]; omega
  have hlr : (x0.take m ++ x0.drop n).length = m + (x0.length - n) := by simp only [List.length_append, List.length_take, List.length_drop]; omega
  refine Wp.seq ?_
  refine Wp.le (E' := [(0, VP.eq (slv (some p) x0.length cap00)), (1, VP.of (m : Int)), (2, VP.of (n : Int)), (7, VP.of (x0.length : Int))]) (.same rfl (.same rfl (.same rfl (.same rfl .nil)))) ?_
  refine Wp.drawD mixed (⟨some 20, [], [], [], fun _ => VP.eq (slv (some p) x0.length cap00), fun _ _ => ⟨none, .dead⟩⟩ :: ⟨some 21, [], [], [], fun _ => VP.of (m : Int), fun _ _ => ⟨none, .dead⟩⟩ :: ⟨some 22, (0 :: 1 :: []), (0 :: []), [], fun _ => VP.eq (vslv (some p) 0 (m - 0) cap00 (Rp.size T_api_Installed)), fun _ _ => ⟨none, .dead⟩⟩ :: ⟨some 23, [], [], [], fun _ => VP.eq (slv (some p) x0.length cap00), fun _ _ => ⟨none, .dead⟩⟩ :: ⟨some 24, [], [], [], fun _ => VP.of (n : Int), fun _ _ => ⟨none, .dead⟩⟩ :: ⟨some 25, (3 :: 4 :: []), (0 :: []), [], fun _ => VP.eq (vslv (some p) n (x0.length - n) cap00 (Rp.size T_api_Installed)), fun _ _ => ⟨none, .dead⟩⟩ :: ⟨some 26, (0 :: 1 :: 2 :: 3 :: 4 :: 5 :: []), (0 :: []), (0 :: []), fun _ => VP.eq (slv (some p) (m + (x0.length - n)) cap00), fun _ _ => ⟨some p, .row 92 (x0.take m ++ x0.drop n ++ x0.drop (m + (x0.length - n))) cap00⟩⟩ :: ⟨some 0, (0 :: 1 :: 2 :: 3 :: 4 :: 5 :: 6 :: []), [], [], fun _ => VP.eq (slv (some p) (m + (x0.length - n)) cap00), fun _ _ => ⟨none, .dead⟩⟩ :: []) _ (0 :: 1 :: 2 :: 7 :: []) rfl rfl (by kernel_rfl) ⟨?_, ?_, ?_, ?_, ?_, ?_, ?_, ?_, trivial⟩ fun hd => ?_
  · exact hd_v rfl rfl rfl fun hd E' L' hE hL => r_move (look_t (hE _ _ rfl))
  · exact hd_v rfl rfl rfl fun hd E' L' hE hL => r_move (look_t (hE _ _ rfl))
  · exact hd_v rfl rfl rfl fun hd E' L' hE hL => r_sliceO (i := 0) (xs := x0) Try.underlying84 ty92 (look_t (hE _ _ rfl)) (hL 0 _ rfl rfl) .none (.some (look_t (hE _ _ rfl))) rfl rfl ⟨Nat.zero_le _, by omega⟩
  · exact hd_v rfl rfl rfl fun hd E' L' hE hL => r_move (look_t (hE _ _ rfl))
  · exact hd_v rfl rfl rfl fun hd E' L' hE hL => r_move (look_t (hE _ _ rfl))
  · exact hd_v rfl rfl rfl fun hd E' L' hE hL => r_sliceO (i := 0) (xs := x0) Try.underlying84 ty92 (look_t (hE _ _ rfl)) (hL 0 _ rfl rfl) (.some (look_t (hE _ _ rfl))) .none rfl rfl ⟨hn, Nat.le_refl _⟩
  · intro hd E' L' hE hL
    have h0 := hL 0 _ rfl rfl
    refine Sq.appDel (i := 0) (m := m) (n := n) (xs := x0) Try.underlying84 ty92 (look_t (hE _ _ rfl)) (look_t (hE _ _ rfl)) h0 hlt hn rfl ?_
    refine Sq.nil ?_
    exact To.fin (gm []) rfl rfl
  · exact hd_v rfl rfl rfl fun hd E' L' hE hL => r_asg (look_t (hE _ _ rfl))
  refine To.next ?_
  refine Wp.seq ?_
  refine Wp.reg ?_
  refine Sq.v (r_move (look_t rfl)) rfl rfl rfl ?_
  refine Sq.v (r_move (look_t rfl)) rfl rfl rfl ?_
  refine Sq.v (r_lenE Try.underlying84 (look_t rfl)) rfl rfl rfl ?_
  refine Sq.v (r_move (look_t rfl)) rfl rfl rfl ?_
  refine Sq.v (r_sliceE (α := T_api_Installed) (m := m + (x0.length - n)) (h := x0.length) Try.underlying84 ty92 (look_t rfl) (.some (look_t rfl)) (.some (look_t rfl)) rfl rfl ⟨by omega, hcap⟩) rfl rfl rfl ?_
  refine Sq.clear (i := 0) (lo := m + (x0.length - n)) (n := x0.length - (m + (x0.length - n))) (xs := x0.take m ++ x0.drop n ++ x0.drop (m + (x0.length - n))) Try.underlying84 ty92 zr92 rfl (look_t rfl) rfl (by rw [hlen]; omega) rfl ?_
  refine Sq.nil ?_
  refine To.next ?_
  refine Wp.seq ?_
  refine Wp.reg ?_
  refine Sq.v (r_move (look_t rfl)) rfl rfl rfl ?_
  refine Sq.v (r_asg (look_t rfl)) rfl rfl rfl ?_
  refine Sq.nil ?_
  refine To.next ?_
  refine Wp.ret ?_
  have hcut : (lclear (x0.take m ++ x0.drop n ++ x0.drop (m + (x0.length - n))) (m + (x0.length - n)) (x0.length - (m + (x0.length - n)))).take (m + (x0.length - n)) = x0.take m ++ x0.drop n := by
    unfold lclear
    rw [List.append_assoc, List.take_append_of_le_length (by rw [List.length_take, hlen]; omega), List.take_take, Nat.min_self, List.take_append_of_le_length (by rw [hlr]; exact Nat.le_refl _), ← hlr, List.take_length]
  refine To.again (.row 92 (x0.take m ++ x0.drop n) cap00) 0 rfl (fun A W o h => ?_) (fun h => ?_) ?_
  · have h9 := row_take (n := m + (x0.length - n)) (by unfold lclear; simp only [List.length_append, List.length_take, List.length_replicate, List.length_drop, hlen]; omega) h
    rwa [hcut] at h9
  · exact ⟨by rw [← hcut, h.1]; simp, h.2⟩
  refine To.endO1 ((some p, cap00) : Option Nat × Nat) (.cons_cons _ (List.nil_sublist _)) rfl ?_ (rvo_t rfl)
  rw [hlr]
theorem C_mcase_Codes_Next {x0 : T_mcase_Codes} {x1 : Int} {pp0 : Nat} {r : Int × T_mcase_Codes} (h : L_mcase_Codes_Next x0 x1 = some r) : MeetsO Try.prog 49 [VP.eq (.pointer (some ⟨pp0, 0, none⟩)), VP.of (x1)] [⟨some pp0, .var (x0 : T_mcase_Codes)⟩] (δ := Unit) (fun d => VP.of (r.1)) (fun d => [⟨some pp0, .var (r.2 : T_mcase_Codes)⟩]) := by
 unfold L_mcase_Codes_Next at h
 refine MeetsO.of Try.func49 rfl Try.ntmps49 rfl fun W A => ?_
 refine Qsr ?_
 refine Qa ?_
 refine Qns ?_
 refine Qsr ?_
 refine Qm ?_
 obtain ⟨y1,hy1,h⟩:=Qbs h
 refine Sq.vS (HS.call [0] en76 (C_mcase_Codes_Left hy1) ⟨look_t rfl, trivial⟩ rfl ⟨rfl, trivial⟩ rfl) rfl rfl rfl ?_
 refine Q1 r_not ?_
 refine Qm ?_
 refine Qg1 r_move ?_
 refine Qg2 r_lss ?_
 refine Qor ?_
 refine Qnx ?_
 refine Qcd h (fun h=>?_) fun h=>?_
 ·refine Qsr ?_
  refine Qa ?_
  refine Qnx ?_
  refine Wp.ret ?_
  refine To.ret ?_
  refine To.bring 0 rfl ?_
  obtain rfl:=some_in h
  exact Qo1 ()
 ·refine Qkn ?_
  refine Qsr ?_
  refine Qm ?_
  refine Q1 r_nck ?_
  refine Q1 (r_fa fd120_1) ?_
  refine Qld 0 le_T_mcase_Codes_at ty3 ?_
  refine Q2 r_add ?_
  refine Q1 r_nck ?_
  refine Q1 (r_fa fd120_1) ?_
  refine Qst 0 le_T_mcase_Codes_at ty3 ?_
  refine Qns ?_
  obtain ⟨k1,hk1,h⟩:=Qbs h
  obtain ⟨y2,hy2,h⟩:=Qbs h
  refine Wp.draw mixed 14 [some 19, some 20, some 21, some 22, some 23, some 24, some 25, some 26, some 27, some 28, some 29, some 30, some 31, some 32] [[], [0], [1], [2], [], [4], [5], [6], [7], [3, 8], [9], [10], [], [11, 12]] [.val _, .val _, .val _, .val _, .val _, .val _, .val _, .val _, .val _, .val _, .val _, .val _, .val _, .val _] [false, false, false, false, false, false, false, false, false, false, false, false, false, false] (by kernel_rfl) rfl rfl rfl (fun ps1 => ⟨Hm, H1 r_nck, H1 (r_fa fd120_0), Hld 0 le_T_mcase_Codes_l ty22, Hm, H1 r_nck, H1 (r_fa fd120_1), Hld 0 le_T_mcase_Codes_at ty3, H2 r_sub, Hix hk1 Try.underlying22 ty5, H1 (r_loadp ty5), H1 (r_c8i Try.underlying5 Try.underlying3), Hm, Hv fun L' hL => r_rem (look_t rfl) (look_t rfl) (modM_some hy2), trivial⟩) fun ps1 => ?_
  refine Qa ?_
  refine Qnx ?_
  refine Wp.ret ?_
  refine To.bring 0 rfl ?_
  obtain rfl:=some_in h
  exact Qo1 ()
theorem Cf0_ordered_List_find {x0 : T_ordered_List} {x1 : Int}  {r : Int} (h : Lf0_ordered_List_find x0 x1 = some r) : Meets Try.prog 82 [VP.ptr x0, VP.of (x1)] (VP.of (r)) := by
 unfold Lf0_ordered_List_find at h
 refine Meets.of Try.func82 rfl Try.ntmps82 rfl fun W A => ?_
 refine Qsr ?_
 refine Qbx fun p1 => ?_
 refine Qa ?_
 refine Qns ?_
 refine Qsr ?_
 refine Qm ?_
 refine Qv (r_pnilp Try.underlying82 (look_t rfl)) ?_
 refine Qnx ?_
 refine Wp.condF (look_t rfl) rfl ?_
 refine Qkn ?_
 refine Qsr ?_
 refine Qm ?_
 refine Q1 r_nckp ?_
 refine Qfp le_T_ordered_List_l fd161_1 ?_
 refine Q1 (r_loadp ty84) ?_
 refine Sq.share (α := Int) 0 3 rfl rfl ?_
 refine Qv (r_clo1 (F := (fun a0 => L_ordered_List_find_fn1 a0 x1)) (τs := [VP.ptr x1]) en118 ⟨look_t rfl, trivial⟩ (fun _ _ h => C_ordered_List_find_fn1 h)) ?_
 obtain ⟨y1,hy1,h⟩:=Qbs h
 refine Qcl en117 (C_slices_IndexFunc_api_Installed hy1) ?_
 refine Qa ?_
 refine Qnx ?_
 refine Wp.ret ?_
 obtain rfl:=some_in h
 exact Qe1
theorem C_cmp_Compare_int {x0 : Int} {x1 : Int}  {r : Int} (h : L_cmp_Compare_int x0 x1 = some r) : Meets Try.prog 145 [VP.of (x0), VP.of (x1)] (VP.of (r)) := by
 unfold L_cmp_Compare_int at h
 refine Meets.of Try.func145 rfl Try.ntmps145 rfl fun W A => ?_
 refine Qsr ?_
 refine Qa ?_
 refine Qnr ?_
 refine Qm ?_
 obtain ⟨y1,hy1,h⟩:=Qbs h
 refine Qcl en178 (C_cmp_isNaN_int hy1) ?_
 refine Qa ?_
 refine Qnr ?_
 refine Qm ?_
 obtain ⟨y2,hy2,h⟩:=Qbs h
 refine Qcl en178 (C_cmp_isNaN_int hy2) ?_
 refine Qa ?_
 refine Qns ?_
 refine Qsr ?_
 refine Qm ?_
 refine Qnx ?_
 refine Qcd h (fun h=>?_) fun h=>?_
 ·refine Wp.seq ?_
  refine Qsr ?_
  refine Qm ?_
  refine Qnx ?_
  refine Qcd h (fun h=>?_) fun h=>?_
  ·refine Qsr ?_
   refine Qa ?_
   refine Qnx ?_
   refine Wp.ret ?_
   refine To.ret ?_
   refine To.ret ?_
   obtain rfl:=some_in h
   exact Qe1
  ·refine Qkn ?_
   refine Qsr ?_
   refine Qa ?_
   refine Qnx ?_
   refine Wp.ret ?_
   refine To.ret ?_
   obtain rfl:=some_in h
   exact Qe1
 ·refine Qkn ?_
  refine Wp.seq ?_
  refine Qsr ?_
  refine Qm ?_
  refine Qnx ?_
  refine Qcd h (fun h=>?_) fun h=>?_
  ·refine Qsr ?_
   refine Qa ?_
   refine Qnx ?_
   refine Wp.ret ?_
   refine To.ret ?_
   obtain rfl:=some_in h
   exact Qe1
  ·refine Qkn ?_
   refine Wp.seq ?_
   refine Qsr ?_
   refine Qm ?_
   refine Qm ?_
   refine Q2 r_lss ?_
   refine Qnx ?_
   refine Qcd h (fun h=>?_) fun h=>?_
   ·refine Qsr ?_
    refine Qa ?_
    refine Qnx ?_
    refine Wp.ret ?_
    refine To.ret ?_
    obtain rfl:=some_in h
    exact Qe1
   ·refine Qkn ?_
    refine Wp.seq ?_
    refine Qsr ?_
    refine Qm ?_
    refine Qm ?_
    refine Q2 r_gtr ?_
    refine Qnx ?_
    refine Qcd h (fun h=>?_) fun h=>?_
    ·refine Qsr ?_
     refine Qa ?_
     refine Qnx ?_
     refine Wp.ret ?_
     refine To.ret ?_
     obtain rfl:=some_in h
     exact Qe1
    ·refine Qkn ?_
     refine Qsr ?_
     refine Qa ?_
     refine Qnx ?_
     refine Wp.ret ?_
     obtain rfl:=some_in h
     exact Qe1
theorem C_check_TableOf {x0 : T_api_Schema} {x1 : Int}  {r : Int} (h : L_check_TableOf x0 x1 = some r) : Meets Try.prog 126 [VP.of (x0), VP.of (x1)] (VP.of (r)) := by
 unfold L_check_TableOf at h
 refine Meets.of Try.func126 rfl Try.ntmps126 rfl fun W A => ?_
 refine Qsr ?_
 refine Qbx fun p1 => ?_
 refine Qbx fun p2 => ?_
 refine Qa ?_
 refine Qnr ?_
 refine Q1 (r_fa fd33_4) ?_
 refine Qld 1 le_T_api_Schema_Tables ty28 ?_
 refine Sq.share (α := Int) 0 3 rfl rfl ?_
 refine Qv (r_clo1 (F := (fun a0 => L_check_TableOf_fn1 a0 x1)) (τs := [VP.ptr x1]) en154 ⟨look_t rfl, trivial⟩ (fun _ _ h => C_check_TableOf_fn1 h)) ?_
 obtain ⟨y1,hy1,h⟩:=Qbs h
 refine Qcl en153 (C_slices_IndexFunc_api_Table hy1) ?_
 refine Qa ?_
 refine Qnx ?_
 refine Wp.ret ?_
 obtain rfl:=some_in h
 exact Qe1
theorem C_own_Entry {x0 : T_api_Entry}  {r : T_api_Entry} (h : L_own_Entry x0 = some r) : Meets Try.prog 116 [VP.of (x0)] (VP.of (r)) := by
 unfold L_own_Entry at h
 refine Meets.of Try.func116 rfl Try.ntmps116 rfl fun W A => ?_
 refine Qsr ?_
 refine Qbx fun p1 => ?_
 refine Qal zr89 fun p2 => ?_
 refine Qns ?_
 obtain ⟨y1,hy1,h⟩:=Qbs h
 obtain ⟨y2,hy2,h⟩:=Qbs h
 refine Wp.draw mixed 7 [some 3, some 4, some 5, some 6, some 7, some 8, some 9] [[], [0], [1], [], [3], [4], []] [.val _, .val _, .val _, .val _, .val _, .val _, .val _] [false, false, false, false, false, false, false] (by kernel_rfl) rfl rfl rfl (fun ps1 => ⟨H1 (r_fa fd89_1), Hld 1 le_T_api_Entry_Matches ty87, Hcl en142 (C_slices_Clone_api_Match hy1), H1 (r_fa fd89_4), Hld 1 le_T_api_Entry_Args ty72, Hcl en143 (C_slices_Clone_api_Value hy2), H1 (r_fa fd89_1), trivial⟩) fun ps1 => ?_
 refine Qst 1 le_T_api_Entry_Matches ty87 ?_
 refine Q1 (r_fa fd89_4) ?_
 obtain ⟨z1,hz1,h⟩:=Qbs h
 refine Qsn 1 le_T_api_Entry_Args ty72 (hb := by exact hz1) ?_
 refine Qnr ?_
 refine Ql0 1 ty89 ?_
 refine Qs0 0 ty89 ?_
 refine Qnx ?_
 refine Wp.ret ?_
 obtain rfl:=some_in h
 exact To.end1 rfl (Qrc 0 ty89)
theorem C_check_FieldOf {x0 : T_api_Schema} {x1 : Int}  {r : Int} (h : L_check_FieldOf x0 x1 = some r) : Meets Try.prog 156 [VP.of (x0), VP.of (x1)] (VP.of (r)) := by
 unfold L_check_FieldOf at h
 refine Meets.of Try.func156 rfl Try.ntmps156 rfl fun W A => ?_
 refine Qsr ?_
 refine Qbx fun p1 => ?_
 refine Qbx fun p2 => ?_
 refine Qa ?_
 refine Qnr ?_
 refine Q1 (r_fa fd33_0) ?_
 refine Qld 1 le_T_api_Schema_Fields ty24 ?_
 refine Sq.share (α := Int) 0 3 rfl rfl ?_
 refine Qv (r_clo1 (F := (fun a0 => L_check_FieldOf_fn1 a0 x1)) (τs := [VP.ptr x1]) en183 ⟨look_t rfl, trivial⟩ (fun _ _ h => C_check_FieldOf_fn1 h)) ?_
 obtain ⟨y1,hy1,h⟩:=Qbs h
 refine Qcl en182 (C_slices_IndexFunc_api_Field hy1) ?_
 refine Qa ?_
 refine Qnx ?_
 refine Wp.ret ?_
 obtain rfl:=some_in h
 exact Qe1
theorem C_value_Ones {x0 : Int}  {r : T_api_Value} (h : L_value_Ones x0 = some r) : Meets Try.prog 184 [VP.of (x0)] (VP.of (r)) := by
 unfold L_value_Ones at h
 refine Meets.of Try.func184 rfl Try.ntmps184 rfl fun W A => ?_
 refine Qsr ?_
 refine Qal zr47 fun p1 => ?_
 refine Qnr ?_
 obtain ⟨z1,hz1,h⟩:=Qbs h
 refine Qn hz1 (r_build (b := { f_Hi := 18446744073709551615#64, f_Lo := 18446744073709551615#64 : T_api_Value }) rfl bu47 zr47 (.cons le_T_api_Value_Hi rfl (look_u64 18446744073709551615 rfl) rfl (.cons le_T_api_Value_Lo rfl (look_u64 18446744073709551615 rfl) rfl (.nil)))) ?_
 refine Qm ?_
 obtain ⟨y1,hy1,h⟩:=Qbs h
 refine Qcl en193 (C_value_within hy1) ?_
 refine Q2 r_sub ?_
 obtain ⟨y2,hy2,h⟩:=Qbs h
 refine Qcl en194 (C_value_Right hy2) ?_
 refine Qs0 0 ty47 ?_
 refine Qnx ?_
 refine Wp.ret ?_
 obtain rfl:=some_in h
 exact To.end1 rfl (Qrc 0 ty47)
end Go.Proofs.Ytodajdohokmjnaa

namespace Go.Proofs.Ytodajdohokmjnaa
open Go Gv
set_option linter.unusedVariables false
set_option linter.unusedSimpArgs false
set_option maxRecDepth 100000
set_option maxHeartbeats 2000000
theorem C_ref04_ids {x0 : T_api_Schema}  {r : (Vector (List Int) 6)} (h : L_ref04_ids x0 = some r) : Meets Try.prog 110 [VP.of (x0)] (VP.of (r)) := by
 unfold L_ref04_ids at h
 refine Meets.of Try.func110 rfl Try.ntmps110 rfl fun W A => ?_
 refine Qsr ?_
 refine Qbx fun p1 => ?_
 refine Qal zr219 fun p2 => ?_
 refine Qnr ?_
 refine Sq.allocX (z := (default : Vector (List Int) 6)) [0, 1, 2, 3, 4, 5] zh219_0_1_2_3_4_5 zr219 rfl fun p3 => ?_
 refine Sq.own (α := Int) 3 ?_
 refine Sq.own (α := Int) 3 ?_
 refine Sq.own (α := Int) 3 ?_
 refine Sq.own (α := Int) 3 ?_
 refine Sq.own (α := Int) 3 ?_
 refine Sq.own (α := Int) 3 ?_
 refine Qns ?_
 refine Qsr ?_
 refine Q1 (r_fa fd33_0) ?_
 refine Qld 8 le_T_api_Schema_Fields ty24 ?_
 refine Q1 (r_len Try.underlying24) ?_
 refine Qm ?_
 refine Qnx ?_
 refine Wp.block ?_
 obtain ⟨e1,hl,h⟩:=Qbs h
 refine Qlp (γ:=(Option Nat × Nat)) (δ:=(Option Nat × Nat)) hl [0, 1, 2, 3, 17, 18] (fun s1 g1 => [(19, VP.of (s1.1))]) (fun s1 g1 => [(5, ⟨g1.1, .row 3 (s1.2.1 : List Int) g1.2⟩), (6, ⟨some p3, .varX (s1.2.2 : Vector (List Int) 6) [(0, slv g1.1 s1.2.1.length g1.2), (1, slv none ([] : List Int).length 0), (2, slv none ([] : List Int).length 0), (3, slv none ([] : List Int).length 0), (4, slv none ([] : List Int).length 0), (5, slv none ([] : List Int).length 0)]⟩)]) (fun q1 => Exit.exit 0) (fun q1 g1 => [(19, VP.of (q1.1)), (20, VP.of (q1.2.1))]) (fun q1 g1 => [(5, ⟨g1.1, .row 3 (q1.2.2.1 : List Int) g1.2⟩), (6, ⟨some p3, .varX (q1.2.2.2 : Vector (List Int) 6) [(0, slv g1.1 q1.2.2.1.length g1.2), (1, slv none ([] : List Int).length 0), (2, slv none ([] : List Int).length 0), (3, slv none ([] : List Int).length 0), (4, slv none ([] : List Int).length 0), (5, slv none ([] : List Int).length 0)]⟩)]) (none, 0) (fun s1 r h g1 => ?_) fun g1 => ?_
 ·clear hl
  refine Qsr ?_
  refine Q2 r_lss ?_
  refine Qns ?_
  refine Qcd h (fun h=>?_) fun h=>?_
  ·refine Qkn ?_
   refine Wp.seq ?_
   refine Wp.block ?_
   refine Qsr ?_
   obtain ⟨k1,hk1,h⟩:=Qbs h
   refine Qix hk1 Try.underlying24 ty123 ?_
   refine Q1 (r_loadp ty123) ?_
   refine Qal zr123 fun p4 => ?_
   refine Qs0 0 ty123 ?_
   refine Qnx ?_
   refine Wp.reg ?_
   refine Qv (r_ia (k := 0) ar219 (look_t rfl) (look_int 0) ⟨by decide, rfl⟩) ?_
   refine Qv (r_loadH (i := 7) (q := 0) (β := Vector (List Int) 6) (γ := Int) ty64 (look_t rfl) rfl rfl) ?_
   refine Q1 (r_fa fd123_0) ?_
   refine Qld 0 le_T_api_Field_ID ty3 ?_
   refine Qbl [(lget x0.f_Fields k1).f_ID] Try.underlying64 ty3 zr3 ?_
   obtain ⟨y1,hy1,h⟩:=Qbs h
   refine Qap 6 Try.underlying64 ty3 zr3 hy1 fun key1 cap1 => ?_
   refine Qv (r_ia (k := 0) ar219 (look_t rfl) (look_int 0) ⟨by decide, rfl⟩) ?_
   refine Sq.storeH (i := 7) (γ := Int) (b' := (vset s1.2.2 0 [] : Vector (List Int) 6)) (os' := [(0, slv key1 y1.length cap1), (1, slv none ([] : List Int).length 0), (2, slv none ([] : List Int).length 0), (3, slv none ([] : List Int).length 0), (4, slv none ([] : List Int).length 0), (5, slv none ([] : List Int).length 0)]) ((Lens.id (Vector (List Int) 6)).comp (Lens.idx (α := List Int) 6 0 (by decide))) ty64 (look_t rfl) (look_t rfl) slv_one rfl rfl rfl rfl ?_
   refine Sq.nil ?_
   refine To.bnorm ?_
   refine To.next ?_
   refine Wp.reg ?_
   refine Q2 r_add ?_
   refine Qm ?_
   refine Sq.nil ?_
   obtain rfl:=some_in h
   exact Qrd (key1, cap1) 1
  ·refine Wp.exit ?_
   refine To.exit ?_
   obtain rfl:=some_in h
   exact Qlv (g1.1, g1.2) 0
 ·clear hl
  refine To.bexit ?_
  refine To.next ?_
  refine Wp.seq ?_
  refine Qsr ?_
  refine Q1 (r_fa fd33_1) ?_
  refine Qld 8 le_T_api_Schema_Headers ty25 ?_
  refine Q1 (r_len Try.underlying25) ?_
  refine Qm ?_
  refine Qnx ?_
  refine Wp.block ?_
  obtain ⟨e2,hl,h⟩:=Qbs h
  refine Qlp (γ:=(Option Nat × Nat)) (δ:=(Option Nat × Nat)) hl [0, 1, 2, 3, 17, 18, 19, 20, 32, 33] (fun s2 g2 => [(34, VP.of (s2.1))]) (fun s2 g2 => [(4, ⟨g2.1, .row 3 (s2.2.1 : List Int) g2.2⟩), (6, ⟨some p3, .varX (s2.2.2 : Vector (List Int) 6) [(0, slv g1.1 e1.2.2.1.length g1.2), (1, slv g2.1 s2.2.1.length g2.2), (2, slv none ([] : List Int).length 0), (3, slv none ([] : List Int).length 0), (4, slv none ([] : List Int).length 0), (5, slv none ([] : List Int).length 0)]⟩)]) (fun q2 => Exit.exit 2) (fun q2 g2 => [(34, VP.of (q2.1)), (35, VP.of (q2.2.1))]) (fun q2 g2 => [(4, ⟨g2.1, .row 3 (q2.2.2.1 : List Int) g2.2⟩), (6, ⟨some p3, .varX (q2.2.2.2 : Vector (List Int) 6) [(0, slv g1.1 e1.2.2.1.length g1.2), (1, slv g2.1 q2.2.2.1.length g2.2), (2, slv none ([] : List Int).length 0), (3, slv none ([] : List Int).length 0), (4, slv none ([] : List Int).length 0), (5, slv none ([] : List Int).length 0)]⟩)]) (none, 0) (fun s2 r h g2 => ?_) fun g2 => ?_
  ·clear hl
   refine Qsr ?_
   refine Q2 r_lss ?_
   refine Qns ?_
   refine Qcd h (fun h=>?_) fun h=>?_
   ·refine Qkn ?_
    refine Wp.seq ?_
    refine Wp.block ?_
    refine Qsr ?_
    obtain ⟨k2,hk2,h⟩:=Qbs h
    refine Qix hk2 Try.underlying25 ty125 ?_
    refine Q1 (r_loadp ty125) ?_
    refine Qal zr125 fun p5 => ?_
    refine Qs0 0 ty125 ?_
    refine Qnx ?_
    refine Wp.reg ?_
    refine Qv (r_ia (k := 1) ar219 (look_t rfl) (look_int 1) ⟨by decide, rfl⟩) ?_
    refine Qv (r_loadH (i := 7) (q := 1) (β := Vector (List Int) 6) (γ := Int) ty64 (look_t rfl) rfl rfl) ?_
    refine Q1 (r_fa fd125_0) ?_
    refine Qld 0 le_T_api_Header_ID ty3 ?_
    refine Qbl [(lget x0.f_Headers k2).f_ID] Try.underlying64 ty3 zr3 ?_
    obtain ⟨y2,hy2,h⟩:=Qbs h
    refine Qap 5 Try.underlying64 ty3 zr3 hy2 fun key2 cap2 => ?_
    refine Qv (r_ia (k := 1) ar219 (look_t rfl) (look_int 1) ⟨by decide, rfl⟩) ?_
    refine Sq.storeH (i := 7) (γ := Int) (b' := (vset s2.2.2 1 [] : Vector (List Int) 6)) (os' := [(0, slv g1.1 e1.2.2.1.length g1.2), (1, slv key2 y2.length cap2), (2, slv none ([] : List Int).length 0), (3, slv none ([] : List Int).length 0), (4, slv none ([] : List Int).length 0), (5, slv none ([] : List Int).length 0)]) ((Lens.id (Vector (List Int) 6)).comp (Lens.idx (α := List Int) 6 1 (by decide))) ty64 (look_t rfl) (look_t rfl) slv_one rfl rfl rfl rfl ?_
    refine Sq.nil ?_
    refine To.bnorm ?_
    refine To.next ?_
    refine Wp.reg ?_
    refine Q2 r_add ?_
    refine Qm ?_
    refine Sq.nil ?_
    obtain rfl:=some_in h
    exact Qrd (key2, cap2) 1
   ·refine Wp.exit ?_
    refine To.exit ?_
    obtain rfl:=some_in h
    exact Qlv (g2.1, g2.2) 0
  ·clear hl
   refine To.bexit ?_
   refine To.next ?_
   refine Wp.seq ?_
   refine Qsr ?_
   refine Q1 (r_fa fd33_2) ?_
   refine Qld 8 le_T_api_Schema_States ty26 ?_
   refine Q1 (r_len Try.underlying26) ?_
   refine Qm ?_
   refine Qnx ?_
   refine Wp.block ?_
   obtain ⟨e3,hl,h⟩:=Qbs h
   refine Qlp (γ:=(Option Nat × Nat)) (δ:=(Option Nat × Nat)) hl [0, 1, 2, 3, 17, 18, 19, 20, 32, 33, 34, 35, 47, 48] (fun s3 g3 => [(49, VP.of (s3.1))]) (fun s3 g3 => [(3, ⟨g3.1, .row 3 (s3.2.1 : List Int) g3.2⟩), (6, ⟨some p3, .varX (s3.2.2 : Vector (List Int) 6) [(0, slv g1.1 e1.2.2.1.length g1.2), (1, slv g2.1 e2.2.2.1.length g2.2), (2, slv g3.1 s3.2.1.length g3.2), (3, slv none ([] : List Int).length 0), (4, slv none ([] : List Int).length 0), (5, slv none ([] : List Int).length 0)]⟩)]) (fun q3 => Exit.exit 4) (fun q3 g3 => [(49, VP.of (q3.1)), (50, VP.of (q3.2.1))]) (fun q3 g3 => [(3, ⟨g3.1, .row 3 (q3.2.2.1 : List Int) g3.2⟩), (6, ⟨some p3, .varX (q3.2.2.2 : Vector (List Int) 6) [(0, slv g1.1 e1.2.2.1.length g1.2), (1, slv g2.1 e2.2.2.1.length g2.2), (2, slv g3.1 q3.2.2.1.length g3.2), (3, slv none ([] : List Int).length 0), (4, slv none ([] : List Int).length 0), (5, slv none ([] : List Int).length 0)]⟩)]) (none, 0) (fun s3 r h g3 => ?_) fun g3 => ?_
   ·clear hl
    refine Qsr ?_
    refine Q2 r_lss ?_
    refine Qns ?_
    refine Qcd h (fun h=>?_) fun h=>?_
    ·refine Qkn ?_
     refine Wp.seq ?_
     refine Wp.block ?_
     refine Qsr ?_
     obtain ⟨k3,hk3,h⟩:=Qbs h
     refine Qix hk3 Try.underlying26 ty196 ?_
     refine Q1 (r_loadp ty196) ?_
     refine Qal zr196 fun p6 => ?_
     refine Qs0 0 ty196 ?_
     refine Qnx ?_
     refine Wp.reg ?_
     refine Qv (r_ia (k := 2) ar219 (look_t rfl) (look_int 2) ⟨by decide, rfl⟩) ?_
     refine Qv (r_loadH (i := 7) (q := 2) (β := Vector (List Int) 6) (γ := Int) ty64 (look_t rfl) rfl rfl) ?_
     refine Q1 (r_fa fd196_0) ?_
     refine Qld 0 le_T_api_State_ID ty3 ?_
     refine Qbl [(lget x0.f_States k3).f_ID] Try.underlying64 ty3 zr3 ?_
     obtain ⟨y3,hy3,h⟩:=Qbs h
     refine Qap 4 Try.underlying64 ty3 zr3 hy3 fun key3 cap3 => ?_
     refine Qv (r_ia (k := 2) ar219 (look_t rfl) (look_int 2) ⟨by decide, rfl⟩) ?_
     refine Sq.storeH (i := 7) (γ := Int) (b' := (vset s3.2.2 2 [] : Vector (List Int) 6)) (os' := [(0, slv g1.1 e1.2.2.1.length g1.2), (1, slv g2.1 e2.2.2.1.length g2.2), (2, slv key3 y3.length cap3), (3, slv none ([] : List Int).length 0), (4, slv none ([] : List Int).length 0), (5, slv none ([] : List Int).length 0)]) ((Lens.id (Vector (List Int) 6)).comp (Lens.idx (α := List Int) 6 2 (by decide))) ty64 (look_t rfl) (look_t rfl) slv_one rfl rfl rfl rfl ?_
     refine Sq.nil ?_
     refine To.bnorm ?_
     refine To.next ?_
     refine Wp.reg ?_
     refine Q2 r_add ?_
     refine Qm ?_
     refine Sq.nil ?_
     obtain rfl:=some_in h
     exact Qrd (key3, cap3) 1
    ·refine Wp.exit ?_
     refine To.exit ?_
     obtain rfl:=some_in h
     exact Qlv (g3.1, g3.2) 0
   ·clear hl
    refine To.bexit ?_
    refine To.next ?_
    refine Wp.seq ?_
    refine Qsr ?_
    refine Q1 (r_fa fd33_3) ?_
    refine Qld 8 le_T_api_Schema_Actions ty27 ?_
    refine Q1 (r_len Try.underlying27) ?_
    refine Qm ?_
    refine Qnx ?_
    refine Wp.block ?_
    obtain ⟨e4,hl,h⟩:=Qbs h
    refine Qlp (γ:=(Option Nat × Nat)) (δ:=(Option Nat × Nat)) hl [0, 1, 2, 3, 17, 18, 19, 20, 32, 33, 34, 35, 47, 48, 49, 50, 62, 63] (fun s4 g4 => [(64, VP.of (s4.1))]) (fun s4 g4 => [(2, ⟨g4.1, .row 3 (s4.2.1 : List Int) g4.2⟩), (6, ⟨some p3, .varX (s4.2.2 : Vector (List Int) 6) [(0, slv g1.1 e1.2.2.1.length g1.2), (1, slv g2.1 e2.2.2.1.length g2.2), (2, slv g3.1 e3.2.2.1.length g3.2), (3, slv g4.1 s4.2.1.length g4.2), (4, slv none ([] : List Int).length 0), (5, slv none ([] : List Int).length 0)]⟩)]) (fun q4 => Exit.exit 6) (fun q4 g4 => [(64, VP.of (q4.1)), (65, VP.of (q4.2.1))]) (fun q4 g4 => [(2, ⟨g4.1, .row 3 (q4.2.2.1 : List Int) g4.2⟩), (6, ⟨some p3, .varX (q4.2.2.2 : Vector (List Int) 6) [(0, slv g1.1 e1.2.2.1.length g1.2), (1, slv g2.1 e2.2.2.1.length g2.2), (2, slv g3.1 e3.2.2.1.length g3.2), (3, slv g4.1 q4.2.2.1.length g4.2), (4, slv none ([] : List Int).length 0), (5, slv none ([] : List Int).length 0)]⟩)]) (none, 0) (fun s4 r h g4 => ?_) fun g4 => ?_
    ·clear hl
     refine Qsr ?_
     refine Q2 r_lss ?_
     refine Qns ?_
     refine Qcd h (fun h=>?_) fun h=>?_
     ·refine Qkn ?_
      refine Wp.seq ?_
      refine Wp.block ?_
      refine Qsr ?_
      obtain ⟨k4,hk4,h⟩:=Qbs h
      refine Qix hk4 Try.underlying27 ty168 ?_
      refine Q1 (r_loadp ty168) ?_
      refine Qal zr168 fun p7 => ?_
      refine Qs0 0 ty168 ?_
      refine Qnx ?_
      refine Wp.reg ?_
      refine Qv (r_ia (k := 3) ar219 (look_t rfl) (look_int 3) ⟨by decide, rfl⟩) ?_
      refine Qv (r_loadH (i := 7) (q := 3) (β := Vector (List Int) 6) (γ := Int) ty64 (look_t rfl) rfl rfl) ?_
      refine Q1 (r_fa fd168_0) ?_
      refine Qld 0 le_T_api_Action_ID ty3 ?_
      refine Qbl [(lget x0.f_Actions k4).f_ID] Try.underlying64 ty3 zr3 ?_
      obtain ⟨y4,hy4,h⟩:=Qbs h
      refine Qap 3 Try.underlying64 ty3 zr3 hy4 fun key4 cap4 => ?_
      refine Qv (r_ia (k := 3) ar219 (look_t rfl) (look_int 3) ⟨by decide, rfl⟩) ?_
      refine Sq.storeH (i := 7) (γ := Int) (b' := (vset s4.2.2 3 [] : Vector (List Int) 6)) (os' := [(0, slv g1.1 e1.2.2.1.length g1.2), (1, slv g2.1 e2.2.2.1.length g2.2), (2, slv g3.1 e3.2.2.1.length g3.2), (3, slv key4 y4.length cap4), (4, slv none ([] : List Int).length 0), (5, slv none ([] : List Int).length 0)]) ((Lens.id (Vector (List Int) 6)).comp (Lens.idx (α := List Int) 6 3 (by decide))) ty64 (look_t rfl) (look_t rfl) slv_one rfl rfl rfl rfl ?_
      refine Sq.nil ?_
      refine To.bnorm ?_
      refine To.next ?_
      refine Wp.reg ?_
      refine Q2 r_add ?_
      refine Qm ?_
      refine Sq.nil ?_
      obtain rfl:=some_in h
      exact Qrd (key4, cap4) 1
     ·refine Wp.exit ?_
      refine To.exit ?_
      obtain rfl:=some_in h
      exact Qlv (g4.1, g4.2) 0
    ·clear hl
     refine To.bexit ?_
     refine To.next ?_
     refine Wp.seq ?_
     refine Qsr ?_
     refine Q1 (r_fa fd33_4) ?_
     refine Qld 8 le_T_api_Schema_Tables ty28 ?_
     refine Q1 (r_len Try.underlying28) ?_
     refine Qm ?_
     refine Qnx ?_
     refine Wp.block ?_
     obtain ⟨e5,hl,h⟩:=Qbs h
     refine Qlp (γ:=(Option Nat × Nat)) (δ:=(Option Nat × Nat)) hl [0, 1, 2, 3, 17, 18, 19, 20, 32, 33, 34, 35, 47, 48, 49, 50, 62, 63, 64, 65, 77, 78] (fun s5 g5 => [(79, VP.of (s5.1))]) (fun s5 g5 => [(1, ⟨g5.1, .row 3 (s5.2.1 : List Int) g5.2⟩), (6, ⟨some p3, .varX (s5.2.2 : Vector (List Int) 6) [(0, slv g1.1 e1.2.2.1.length g1.2), (1, slv g2.1 e2.2.2.1.length g2.2), (2, slv g3.1 e3.2.2.1.length g3.2), (3, slv g4.1 e4.2.2.1.length g4.2), (4, slv g5.1 s5.2.1.length g5.2), (5, slv none ([] : List Int).length 0)]⟩)]) (fun q5 => Exit.exit 8) (fun q5 g5 => [(79, VP.of (q5.1)), (80, VP.of (q5.2.1))]) (fun q5 g5 => [(1, ⟨g5.1, .row 3 (q5.2.2.1 : List Int) g5.2⟩), (6, ⟨some p3, .varX (q5.2.2.2 : Vector (List Int) 6) [(0, slv g1.1 e1.2.2.1.length g1.2), (1, slv g2.1 e2.2.2.1.length g2.2), (2, slv g3.1 e3.2.2.1.length g3.2), (3, slv g4.1 e4.2.2.1.length g4.2), (4, slv g5.1 q5.2.2.1.length g5.2), (5, slv none ([] : List Int).length 0)]⟩)]) (none, 0) (fun s5 r h g5 => ?_) fun g5 => ?_
     ·clear hl
      refine Qsr ?_
      refine Q2 r_lss ?_
      refine Qns ?_
      refine Qcd h (fun h=>?_) fun h=>?_
      ·refine Qkn ?_
       refine Wp.seq ?_
       refine Wp.block ?_
       refine Qsr ?_
       obtain ⟨k5,hk5,h⟩:=Qbs h
       refine Qix hk5 Try.underlying28 ty136 ?_
       refine Q1 (r_loadp ty136) ?_
       refine Qal zr136 fun p8 => ?_
       refine Qs0 0 ty136 ?_
       refine Qnx ?_
       refine Wp.reg ?_
       refine Qv (r_ia (k := 4) ar219 (look_t rfl) (look_int 4) ⟨by decide, rfl⟩) ?_
       refine Qv (r_loadH (i := 7) (q := 4) (β := Vector (List Int) 6) (γ := Int) ty64 (look_t rfl) rfl rfl) ?_
       refine Q1 (r_fa fd136_0) ?_
       refine Qld 0 le_T_api_Table_ID ty3 ?_
       refine Qbl [(lget x0.f_Tables k5).f_ID] Try.underlying64 ty3 zr3 ?_
       obtain ⟨y5,hy5,h⟩:=Qbs h
       refine Qap 2 Try.underlying64 ty3 zr3 hy5 fun key5 cap5 => ?_
       refine Qv (r_ia (k := 4) ar219 (look_t rfl) (look_int 4) ⟨by decide, rfl⟩) ?_
       refine Sq.storeH (i := 7) (γ := Int) (b' := (vset s5.2.2 4 [] : Vector (List Int) 6)) (os' := [(0, slv g1.1 e1.2.2.1.length g1.2), (1, slv g2.1 e2.2.2.1.length g2.2), (2, slv g3.1 e3.2.2.1.length g3.2), (3, slv g4.1 e4.2.2.1.length g4.2), (4, slv key5 y5.length cap5), (5, slv none ([] : List Int).length 0)]) ((Lens.id (Vector (List Int) 6)).comp (Lens.idx (α := List Int) 6 4 (by decide))) ty64 (look_t rfl) (look_t rfl) slv_one rfl rfl rfl rfl ?_
       refine Sq.nil ?_
       refine To.bnorm ?_
       refine To.next ?_
       refine Wp.reg ?_
       refine Q2 r_add ?_
       refine Qm ?_
       refine Sq.nil ?_
       obtain rfl:=some_in h
       exact Qrd (key5, cap5) 1
      ·refine Wp.exit ?_
       refine To.exit ?_
       obtain rfl:=some_in h
       exact Qlv (g5.1, g5.2) 0
     ·clear hl
      refine To.bexit ?_
      refine To.next ?_
      refine Wp.seq ?_
      refine Qsr ?_
      refine Q1 (r_fa fd33_6) ?_
      refine Qld 8 le_T_api_Schema_Roles ty30 ?_
      refine Q1 (r_len Try.underlying30) ?_
      refine Qm ?_
      refine Qnx ?_
      refine Wp.block ?_
      obtain ⟨e6,hl,h⟩:=Qbs h
      refine Qlp (γ:=(Option Nat × Nat)) (δ:=(Option Nat × Nat)) hl [0, 1, 2, 3, 17, 18, 19, 20, 32, 33, 34, 35, 47, 48, 49, 50, 62, 63, 64, 65, 77, 78, 79, 80, 92, 93] (fun s6 g6 => [(94, VP.of (s6.1))]) (fun s6 g6 => [(0, ⟨g6.1, .row 3 (s6.2.1 : List Int) g6.2⟩), (6, ⟨some p3, .varX (s6.2.2 : Vector (List Int) 6) [(0, slv g1.1 e1.2.2.1.length g1.2), (1, slv g2.1 e2.2.2.1.length g2.2), (2, slv g3.1 e3.2.2.1.length g3.2), (3, slv g4.1 e4.2.2.1.length g4.2), (4, slv g5.1 e5.2.2.1.length g5.2), (5, slv g6.1 s6.2.1.length g6.2)]⟩)]) (fun q6 => Exit.exit 10) (fun q6 g6 => [(94, VP.of (q6.1)), (95, VP.of (q6.2.1))]) (fun q6 g6 => [(0, ⟨g6.1, .row 3 (q6.2.2.1 : List Int) g6.2⟩), (6, ⟨some p3, .varX (q6.2.2.2 : Vector (List Int) 6) [(0, slv g1.1 e1.2.2.1.length g1.2), (1, slv g2.1 e2.2.2.1.length g2.2), (2, slv g3.1 e3.2.2.1.length g3.2), (3, slv g4.1 e4.2.2.1.length g4.2), (4, slv g5.1 e5.2.2.1.length g5.2), (5, slv g6.1 q6.2.2.1.length g6.2)]⟩)]) (none, 0) (fun s6 r h g6 => ?_) fun g6 => ?_
      ·clear hl
       refine Qsr ?_
       refine Q2 r_lss ?_
       refine Qns ?_
       refine Qcd h (fun h=>?_) fun h=>?_
       ·refine Qkn ?_
        refine Wp.seq ?_
        refine Wp.block ?_
        refine Qsr ?_
        obtain ⟨k6,hk6,h⟩:=Qbs h
        refine Qix hk6 Try.underlying30 ty207 ?_
        refine Q1 (r_loadp ty207) ?_
        refine Qal zr207 fun p9 => ?_
        refine Qs0 0 ty207 ?_
        refine Qnx ?_
        refine Wp.reg ?_
        refine Qv (r_ia (k := 5) ar219 (look_t rfl) (look_int 5) ⟨by decide, rfl⟩) ?_
        refine Qv (r_loadH (i := 7) (q := 5) (β := Vector (List Int) 6) (γ := Int) ty64 (look_t rfl) rfl rfl) ?_
        refine Q1 (r_fa fd207_0) ?_
        refine Qld 0 le_T_api_Role_ID ty3 ?_
        refine Qbl [(lget x0.f_Roles k6).f_ID] Try.underlying64 ty3 zr3 ?_
        obtain ⟨y6,hy6,h⟩:=Qbs h
        refine Qap 1 Try.underlying64 ty3 zr3 hy6 fun key6 cap6 => ?_
        refine Qv (r_ia (k := 5) ar219 (look_t rfl) (look_int 5) ⟨by decide, rfl⟩) ?_
        refine Sq.storeH (i := 7) (γ := Int) (b' := (vset s6.2.2 5 [] : Vector (List Int) 6)) (os' := [(0, slv g1.1 e1.2.2.1.length g1.2), (1, slv g2.1 e2.2.2.1.length g2.2), (2, slv g3.1 e3.2.2.1.length g3.2), (3, slv g4.1 e4.2.2.1.length g4.2), (4, slv g5.1 e5.2.2.1.length g5.2), (5, slv key6 y6.length cap6)]) ((Lens.id (Vector (List Int) 6)).comp (Lens.idx (α := List Int) 6 5 (by decide))) ty64 (look_t rfl) (look_t rfl) slv_one rfl rfl rfl rfl ?_
        refine Sq.nil ?_
        refine To.bnorm ?_
        refine To.next ?_
        refine Wp.reg ?_
        refine Q2 r_add ?_
        refine Qm ?_
        refine Sq.nil ?_
        obtain rfl:=some_in h
        exact Qrd (key6, cap6) 1
       ·refine Wp.exit ?_
        refine To.exit ?_
        obtain rfl:=some_in h
        exact Qlv (g6.1, g6.2) 0
      ·clear hl
       refine To.bexit ?_
       refine To.next ?_
       refine Qsr ?_
       refine Sq.thaw (β := Vector (List Int) 6) (γ := Int) (b' := (vset e6.2.2.2 0 e1.2.2.1 : Vector (List Int) 6)) ((Lens.id (Vector (List Int) 6)).comp (Lens.idx (α := List Int) 6 0 (by decide))) 6 5 0 rfl rfl rfl rfl rfl rfl ?_
       refine Sq.thaw (β := Vector (List Int) 6) (γ := Int) (b' := (vset (vset e6.2.2.2 0 e1.2.2.1) 1 e2.2.2.1 : Vector (List Int) 6)) ((Lens.id (Vector (List Int) 6)).comp (Lens.idx (α := List Int) 6 1 (by decide))) 6 4 0 rfl rfl rfl rfl rfl rfl ?_
       refine Sq.thaw (β := Vector (List Int) 6) (γ := Int) (b' := (vset (vset (vset e6.2.2.2 0 e1.2.2.1) 1 e2.2.2.1) 2 e3.2.2.1 : Vector (List Int) 6)) ((Lens.id (Vector (List Int) 6)).comp (Lens.idx (α := List Int) 6 2 (by decide))) 6 3 0 rfl rfl rfl rfl rfl rfl ?_
       refine Sq.thaw (β := Vector (List Int) 6) (γ := Int) (b' := (vset (vset (vset (vset e6.2.2.2 0 e1.2.2.1) 1 e2.2.2.1) 2 e3.2.2.1) 3 e4.2.2.1 : Vector (List Int) 6)) ((Lens.id (Vector (List Int) 6)).comp (Lens.idx (α := List Int) 6 3 (by decide))) 6 2 0 rfl rfl rfl rfl rfl rfl ?_
       refine Sq.thaw (β := Vector (List Int) 6) (γ := Int) (b' := (vset (vset (vset (vset (vset e6.2.2.2 0 e1.2.2.1) 1 e2.2.2.1) 2 e3.2.2.1) 3 e4.2.2.1) 4 e5.2.2.1 : Vector (List Int) 6)) ((Lens.id (Vector (List Int) 6)).comp (Lens.idx (α := List Int) 6 4 (by decide))) 6 1 0 rfl rfl rfl rfl rfl rfl ?_
       refine Sq.thaw (β := Vector (List Int) 6) (γ := Int) (b' := (vset (vset (vset (vset (vset (vset e6.2.2.2 0 e1.2.2.1) 1 e2.2.2.1) 2 e3.2.2.1) 3 e4.2.2.1) 4 e5.2.2.1) 5 e6.2.2.1 : Vector (List Int) 6)) ((Lens.id (Vector (List Int) 6)).comp (Lens.idx (α := List Int) 6 5 (by decide))) 6 0 0 rfl rfl rfl rfl rfl rfl ?_
       refine Sq.fromX 6 rfl ?_
       obtain ⟨z1,hz1,h⟩:=Qbs h
       refine Qn hz1 (r_load (i := 6) (Lens.id (Vector (List Int) 6)) (r := (vset (vset (vset (vset (vset (vset e6.2.2.2 0 e1.2.2.1) 1 e2.2.2.1) 2 e3.2.2.1) 3 e4.2.2.1) 4 e5.2.2.1) 5 e6.2.2.1)) ty219 (look_t rfl) rfl rfl rfl) ?_
       refine Qs0 7 ty219 ?_
       refine Qnx ?_
       refine Wp.ret ?_
       obtain rfl:=some_in h
       exact To.end1 rfl (Qrc 7 ty219)
theorem C_ref04_index {x0 : List Int} {x1 : Int}  {r : Int} (h : L_ref04_index x0 x1 = some r) : Meets Try.prog 109 [VP.of (x0), VP.of (x1)] (VP.of (r)) := by
 unfold L_ref04_index at h
 refine Meets.of Try.func109 rfl Try.ntmps109 rfl fun W A => ?_
 refine Qsr ?_
 refine Qa ?_
 refine Qns ?_
 refine Qsr ?_
 refine Qm ?_
 refine Q1 (r_len Try.underlying64) ?_
 refine Qm ?_
 refine Qnx ?_
 refine Wp.block ?_
 obtain ⟨e1,hl,h⟩:=Qbs h
 refine Qlp (γ:=Unit) (δ:=Unit) hl [0, 1, 7, 8] (fun s1 g1 => [(4, VP.of (0 : Int)), (9, VP.of (s1))]) (fun s1 g1 => []) (fun q1 => Sum.elim (fun q1 => Exit.exit 0) (fun q1 => Exit.ret) q1) (fun q1 g1 => Sum.elim (fun q1 => [(4, VP.of (0 : Int)), (9, VP.of (q1.1)), (10, VP.of (q1.2))]) (fun q1 => [(4, VP.of (q1.1)), (5, VP.of (q1.2.1)), (6, VP.of (q1.2.2.1)), (9, VP.of (q1.2.2.2.1)), (10, VP.of (q1.2.2.2.2.1)), (16, VP.of (q1.2.2.2.2.2))]) q1) (fun q1 g1 => Sum.elim (fun q1 => []) (fun q1 => []) q1) () (fun s1 r h g1 => ?_) fun g1 => ?_
 ·clear hl
  refine Qsr ?_
  refine Q2 r_lss ?_
  refine Qns ?_
  refine Qcd h (fun h=>?_) fun h=>?_
  ·refine Qkn ?_
   refine Wp.seq ?_
   refine Wp.block ?_
   refine Qsr ?_
   refine Qm ?_
   obtain ⟨k1,hk1,h⟩:=Qbs h
   refine Qix hk1 Try.underlying64 ty3 ?_
   refine Q1 (r_loadp ty3) ?_
   refine Qa ?_
   refine Qa ?_
   refine Qnr ?_
   refine Qm ?_
   refine Qm ?_
   refine Q2 r_eql ?_
   refine Qnx ?_
   refine Qcd h (fun h=>?_) fun h=>?_
   ·refine Qsr ?_
    refine Qm ?_
    refine Qa ?_
    refine Qnx ?_
    refine Wp.ret ?_
    refine To.bret ?_
    refine To.ret ?_
    obtain rfl:=some_in h
    exact Qlv () 0
   ·refine Wp.skip ?_
    refine To.bnorm ?_
    refine To.next ?_
    refine Wp.reg ?_
    refine Q2 r_add ?_
    refine Qm ?_
    refine Sq.nil ?_
    obtain rfl:=some_in h
    exact Qrd () 0
  ·refine Wp.exit ?_
   refine To.exit ?_
   obtain rfl:=some_in h
   exact Qlv () 0
 ·clear hl
  rcases e1 with e1 | e1
  ·simp only [Sum.elim_inl] at h
   refine To.bexit ?_
   refine To.next ?_
   refine Qsr ?_
   refine Qa ?_
   refine Qnx ?_
   refine Wp.ret ?_
   obtain rfl:=some_in h
   exact Qe1
  ·simp only [Sum.elim_inr] at h
   refine To.bret ?_
   refine To.ret ?_
   obtain rfl:=some_in h
   exact Qe1
end Go.Proofs.Ytodajdohokmjnaa

namespace Go.Proofs.Ytodajdohokmjnaa
open Go Gv
set_option linter.unusedVariables false
set_option linter.unusedSimpArgs false
set_option maxRecDepth 100000
set_option maxHeartbeats 2000000
theorem C_ref04_TableOf {x0 : T_api_Schema} {x1 : Int}  {r : Int} (h : L_ref04_TableOf x0 x1 = some r) : Meets Try.prog 86 [VP.of (x0), VP.of (x1)] (VP.of (r)) := by
 unfold L_ref04_TableOf at h
 refine Meets.of Try.func86 rfl Try.ntmps86 rfl fun W A => ?_
 refine Qsr ?_
 refine Qbx fun p1 => ?_
 refine Qa ?_
 refine Qnr ?_
 refine Ql0 0 ty33 ?_
 obtain ⟨y1,hy1,h⟩:=Qbs h
 refine Qcl en110 (C_ref04_ids hy1) ?_
 refine Qv (r_index (k := 4) Try.underlying219 ty64 (look_t rfl) (look_int 4) ⟨by decide, rfl⟩) ?_
 refine Qm ?_
 obtain ⟨y2,hy2,h⟩:=Qbs h
 refine Qcl en109 (C_ref04_index hy2) ?_
 refine Qa ?_
 refine Qnx ?_
 refine Wp.ret ?_
 obtain rfl:=some_in h
 exact Qe1
theorem C_ref04_FieldOf {x0 : T_api_Schema} {x1 : Int}  {r : Int} (h : L_ref04_FieldOf x0 x1 = some r) : Meets Try.prog 149 [VP.of (x0), VP.of (x1)] (VP.of (r)) := by
 unfold L_ref04_FieldOf at h
 refine Meets.of Try.func149 rfl Try.ntmps149 rfl fun W A => ?_
 refine Qsr ?_
 refine Qbx fun p1 => ?_
 refine Qa ?_
 refine Qnr ?_
 refine Ql0 0 ty33 ?_
 obtain ⟨y1,hy1,h⟩:=Qbs h
 refine Qcl en110 (C_ref04_ids hy1) ?_
 refine Qv (r_index (k := 0) Try.underlying219 ty64 (look_t rfl) (look_int 0) ⟨by decide, rfl⟩) ?_
 refine Qm ?_
 obtain ⟨y2,hy2,h⟩:=Qbs h
 refine Qcl en109 (C_ref04_index hy2) ?_
 refine Qa ?_
 refine Qnx ?_
 refine Wp.ret ?_
 obtain rfl:=some_in h
 exact Qe1
theorem C_ref01_And {x0 : T_api_Value} {x1 : T_api_Value}  {r : T_api_Value} (h : L_ref01_And x0 x1 = some r) : Meets Try.prog 122 [VP.of (x0), VP.of (x1)] (VP.of (r)) := by
 unfold L_ref01_And at h
 refine Meets.of Try.func122 rfl Try.ntmps122 rfl fun W A => ?_
 refine Qsr ?_
 refine Qbx fun p1 => ?_
 refine Qbx fun p2 => ?_
 refine Qal zr47 fun p3 => ?_
 refine Qns ?_
 obtain ⟨y1,hy1,h⟩:=Qbs h
 obtain ⟨y2,hy2,h⟩:=Qbs h
 refine Wp.draw mixed 6 [some 8, some 9, some 10, some 11, some 5, some 6] [[], [0], [], [2], [], []] [.val _, .val _, .val _, .val _, .new (.var (default : Vector Bool 128)), .new (.var (default : Vector Bool 128))] [false, false, false, false, false, false] (by kernel_rfl) rfl rfl rfl (fun ps1 => ⟨Hl0 2 ty47, Hcl en111 (C_ref01_Read hy1), Hl0 1 ty47, Hcl en111 (C_ref01_Read hy2), ao_alloc zr222, ao_alloc zr222, trivial⟩) fun ps1 => ?_
 refine Qs0 0 ty222 ?_
 refine Qs0 1 ty222 ?_
 refine Qns ?_
 refine Qsr ?_
 refine Qm ?_
 refine Qnx ?_
 refine Wp.block ?_
 obtain ⟨e1,hl,h⟩:=Qbs h
 refine Qlp (γ:=Unit) (δ:=Unit) hl [0, 1, 2, 3, 4, 5, 6] (fun s1 g1 => [(12, VP.of (s1.1))]) (fun s1 g1 => [(0, ⟨some (ps1 4), .var (s1.2 : Vector Bool 128)⟩)]) (fun q1 => Exit.exit 0) (fun q1 g1 => [(12, VP.of (q1.1)), (13, VP.of (q1.2.1))]) (fun q1 g1 => [(0, ⟨some (ps1 4), .var (q1.2.2 : Vector Bool 128)⟩)]) () (fun s1 r h g1 => ?_) fun g1 => ?_
 ·clear hl
  refine Qsr ?_
  refine Q2 r_lss ?_
  refine Qns ?_
  refine Qcd h (fun h=>?_) fun h=>?_
  ·refine Qkn ?_
   refine Wp.seq ?_
   refine Wp.block ?_
   refine Qsr ?_
   refine Qm ?_
   refine Qa ?_
   refine Qnx ?_
   refine Wp.reg ?_
   refine Qm ?_
   refine Qm ?_
   obtain ⟨k1,hk1,h⟩:=Qbs h
   refine Qv (r_ia (k := k1) ar222 (look_t rfl) (look_t rfl) (idx_some hk1)) ?_
   refine Qld 0 ((Lens.id (Vector Bool 128)).comp (Lens.idx (α := Bool) 128 k1 (idx_some hk1).1)) ty4 ?_
   refine Qm ?_
   refine Qg1 r_move ?_
   obtain ⟨k2,hk2,h⟩:=Qbs h
   refine Qg (fun hb => r_ia (k := k2) ar222 (look_t rfl) (look_tc rfl hb) (idx_some (condM_some hk2 hb))) ?_
   refine Qg (fun hb => r_load (i := 1) ((Lens.id (Vector Bool 128)).comp (Lens.idx (α := Bool) 128 k2 (idx_some (condM_some hk2 hb)).1)) (r := vget y2 k2) ty4 (look_tc rfl hb) rfl rfl rfl) ?_
   refine Qan ?_
   obtain ⟨k3,hk3,h⟩:=Qbs h
   refine Qv (r_ia (k := k3) ar222 (look_t rfl) (look_t rfl) (idx_some hk3)) ?_
   refine Qst 0 ((Lens.id (Vector Bool 128)).comp (Lens.idx (α := Bool) 128 k3 (idx_some hk3).1)) ty4 ?_
   refine Sq.nil ?_
   refine To.bnorm ?_
   refine To.next ?_
   refine Wp.reg ?_
   refine Q2 r_add ?_
   refine Qm ?_
   refine Sq.nil ?_
   obtain rfl:=some_in h
   exact Qrd () 0
  ·refine Wp.exit ?_
   refine To.exit ?_
   obtain rfl:=some_in h
   exact Qlv () 0
 ·clear hl
  refine To.bexit ?_
  refine To.next ?_
  refine Qsr ?_
  refine Ql0 0 ty222 ?_
  obtain ⟨y3,hy3,h⟩:=Qbs h
  refine Qcl en148 (C_ref01_Make hy3) ?_
  refine Qs0 2 ty47 ?_
  refine Qnx ?_
  refine Wp.ret ?_
  obtain rfl:=some_in h
  exact To.end1 rfl (Qrc 2 ty47)
theorem C_ref01_Compare {x0 : T_api_Value} {x1 : T_api_Value}  {r : Int} (h : L_ref01_Compare x0 x1 = some r) : Meets Try.prog 73 [VP.of (x0), VP.of (x1)] (VP.of (r)) := by
 unfold L_ref01_Compare at h
 refine Meets.of Try.func73 rfl Try.ntmps73 rfl fun W A => ?_
 refine Qsr ?_
 refine Qbx fun p1 => ?_
 refine Qbx fun p2 => ?_
 refine Qa ?_
 refine Qns ?_
 obtain ⟨y1,hy1,h⟩:=Qbs h
 obtain ⟨y2,hy2,h⟩:=Qbs h
 refine Wp.draw mixed 6 [some 8, some 9, some 10, some 11, some 5, some 6] [[], [0], [], [2], [], []] [.val _, .val _, .val _, .val _, .new (.var (default : Vector Bool 128)), .new (.var (default : Vector Bool 128))] [false, false, false, false, false, false] (by kernel_rfl) rfl rfl rfl (fun ps1 => ⟨Hl0 1 ty47, Hcl en111 (C_ref01_Read hy1), Hl0 0 ty47, Hcl en111 (C_ref01_Read hy2), ao_alloc zr222, ao_alloc zr222, trivial⟩) fun ps1 => ?_
 refine Qs0 0 ty222 ?_
 refine Qs0 1 ty222 ?_
 refine Qns ?_
 refine Qsr ?_
 refine Qa ?_
 refine Qnx ?_
 refine Wp.block ?_
 obtain ⟨e1,hl,h⟩:=Qbs h
 refine Qlp (γ:=Unit) (δ:=Unit) hl [0, 1, 2, 3, 5, 6] (fun s1 g1 => [(4, VP.of (0 : Int)), (7, VP.of (s1))]) (fun s1 g1 => []) (fun q1 => Sum.elim (fun q1 => Exit.exit 0) (fun q1 => Exit.ret) q1) (fun q1 g1 => Sum.elim (fun q1 => [(4, VP.of (0 : Int)), (7, VP.of (q1.1)), (13, VP.of (q1.2))]) (fun q1 => [(4, VP.of (q1.1)), (7, VP.of (q1.2.1)), (13, VP.of (q1.2.2.1)), (22, VP.of (q1.2.2.2.1)), (25, VP.of (q1.2.2.2.2))]) q1) (fun q1 g1 => Sum.elim (fun q1 => []) (fun q1 => []) q1) () (fun s1 r h g1 => ?_) fun g1 => ?_
 ·clear hl
  refine Wp.seq ?_
  refine Qsr ?_
  refine Qm ?_
  refine Q2 r_geq ?_
  refine Qnx ?_
  refine Qcd h (fun h=>?_) fun h=>?_
  ·refine Qkn ?_
   refine Wp.seq ?_
   refine Wp.block ?_
   refine Wp.seq ?_
   obtain ⟨k1,hk1,h⟩:=Qbs h
   obtain ⟨k2,hk2,h⟩:=Qbs h
   refine Wp.draw mixed 7 [some 16, some 17, some 18, some 19, some 20, some 21, some 22] [[], [0], [1], [], [3], [4], [2, 5]] [.val _, .val _, .val _, .val _, .val _, .val _, .val _] [false, false, false, false, false, false, false] (by kernel_rfl) rfl rfl rfl (fun ps2 => ⟨Hm, Hv fun L' hL => r_ia (k := k1) ar222 (look_t rfl) (look_t rfl) (idx_some hk1), Hld 0 ((Lens.id (Vector Bool 128)).comp (Lens.idx (α := Bool) 128 k1 (idx_some hk1).1)) ty4, Hm, Hv fun L' hL => r_ia (k := k2) ar222 (look_t rfl) (look_t rfl) (idx_some hk2), Hld 1 ((Lens.id (Vector Bool 128)).comp (Lens.idx (α := Bool) 128 k2 (idx_some hk2).1)) ty4, H2 (r_bne Try.underlying4), trivial⟩) fun ps2 => ?_
   refine Qnx ?_
   refine Qcd h (fun h=>?_) fun h=>?_
   ·refine Wp.seq ?_
    refine Qsr ?_
    refine Qm ?_
    obtain ⟨k3,hk3,h⟩:=Qbs h
    refine Qv (r_ia (k := k3) ar222 (look_t rfl) (look_t rfl) (idx_some hk3)) ?_
    refine Qld 1 ((Lens.id (Vector Bool 128)).comp (Lens.idx (α := Bool) 128 k3 (idx_some hk3).1)) ty4 ?_
    refine Qnx ?_
    refine Qcd h (fun h=>?_) fun h=>?_
    ·refine Qsr ?_
     refine Qa ?_
     refine Qnx ?_
     refine Wp.ret ?_
     refine To.ret ?_
     refine To.bret ?_
     refine To.ret ?_
     obtain rfl:=some_in h
     exact Qlv () 0
    ·refine Qkn ?_
     refine Qsr ?_
     refine Qa ?_
     refine Qnx ?_
     refine Wp.ret ?_
     refine To.bret ?_
     refine To.ret ?_
     obtain rfl:=some_in h
     exact Qlv () 0
   ·refine Wp.skip ?_
    refine To.bnorm ?_
    refine To.next ?_
    refine Wp.reg ?_
    refine Qm ?_
    refine Q2 r_sub ?_
    refine Qa ?_
    refine Sq.nil ?_
    obtain rfl:=some_in h
    exact Qrd () 0
  ·refine Wp.exit ?_
   refine To.exit ?_
   obtain rfl:=some_in h
   exact Qlv () 0
 ·clear hl
  rcases e1 with e1 | e1
  ·simp only [Sum.elim_inl] at h
   refine To.bexit ?_
   refine To.next ?_
   refine Qsr ?_
   refine Qa ?_
   refine Qnx ?_
   refine Wp.ret ?_
   obtain rfl:=some_in h
   exact Qe1
  ·simp only [Sum.elim_inr] at h
   refine To.bret ?_
   refine To.ret ?_
   obtain rfl:=some_in h
   exact Qe1
theorem Ch0_1_ordered_List_find {x0 : T_ordered_List} {x1 : Int} {pp0 : Nat} {key00_0 : Option Nat} {cap00_0 : Nat} {r : Int} (h : Lh0_1_ordered_List_find x0 x1 = some r) : MeetsO Try.prog 82 [VP.eq (.pointer (some ⟨pp0, 0, none⟩)), VP.of (x1)] [⟨some pp0, .varX (({ x0 with f_l := [] } : T_ordered_List) : T_ordered_List) [(10, slv key00_0 x0.f_l.length cap00_0)]⟩, ⟨key00_0, .row 92 (x0.f_l : List T_api_Installed) cap00_0⟩] (δ := Unit) (fun d => VP.of (r)) (fun d => [⟨some pp0, .varX (({ x0 with f_l := [] } : T_ordered_List) : T_ordered_List) [(10, slv key00_0 (x0.f_l).length cap00_0)]⟩, ⟨key00_0, .row 92 (x0.f_l : List T_api_Installed) cap00_0⟩]) := by
 unfold Lh0_1_ordered_List_find at h
 refine MeetsO.of Try.func82 rfl Try.ntmps82 rfl fun W A => ?_
 refine Qsr ?_
 refine Qbx fun p1 => ?_
 refine Qa ?_
 refine Qns ?_
 refine Qsr ?_
 refine Qm ?_
 refine Qv (r_pnil Try.underlying82 (look_t rfl)) ?_
 refine Qnx ?_
 refine Wp.condF (look_t rfl) rfl ?_
 refine Qkn ?_
 refine Qsr ?_
 refine Qm ?_
 refine Q1 r_nck ?_
 refine Q1 (r_fa fd161_1) ?_
 refine Qv (r_loadH (i := 1) (q := 0) (β := T_ordered_List) (γ := T_api_Installed) ty84 (look_t rfl) rfl rfl) ?_
 refine Sq.share (α := Int) 0 3 rfl rfl ?_
 refine Qv (r_clo1 (F := (fun a0 => L_ordered_List_find_fn1 a0 x1)) (τs := [VP.ptr x1]) en118 ⟨look_t rfl, trivial⟩ (fun _ _ h => C_ordered_List_find_fn1 h)) ?_
 obtain ⟨y1,hy1,h⟩:=Qbs h
 refine Qv (HR.lend (α := T_api_Installed) 2 10 rfl rfl flat_int (r_call en117 (C_slices_IndexFunc_api_Installed hy1) ⟨look_t rfl, look_t rfl, trivial⟩)) ?_
 refine Qa ?_
 refine Qnx ?_
 refine Wp.ret ?_
 refine To.bring 2 rfl ?_
 refine To.bring 2 rfl ?_
 obtain rfl:=some_in h
 exact Qo1 ()
theorem C_mcase_Codes_Bool {x0 : T_mcase_Codes} {pp0 : Nat} {r : Bool × T_mcase_Codes} (h : L_mcase_Codes_Bool x0 = some r) : MeetsO Try.prog 54 [VP.eq (.pointer (some ⟨pp0, 0, none⟩))] [⟨some pp0, .var (x0 : T_mcase_Codes)⟩] (δ := Unit) (fun d => VP.of (r.1)) (fun d => [⟨some pp0, .var (r.2 : T_mcase_Codes)⟩]) := by
 unfold L_mcase_Codes_Bool at h
 refine MeetsO.of Try.func54 rfl Try.ntmps54 rfl fun W A => ?_
 refine Qsr ?_
 refine Qa ?_
 refine Qnr ?_
 refine Qm ?_
 refine Sq.bring 0 rfl ?_
 obtain ⟨y1,hy1,h⟩:=Qbs h
 refine QcO 1 en49 (C_mcase_Codes_Next hy1) fun q1 => ?_
 refine Q2 r_eql ?_
 refine Qa ?_
 refine Qnx ?_
 refine Wp.ret ?_
 refine To.bring 0 rfl ?_
 obtain rfl:=some_in h
 exact Qo1 ()
theorem C_mcase_Codes_match {x0 : T_mcase_Codes} {x1 : T_api_Schema} {x2 : T_api_Key} {pp0 : Nat} {r : T_api_Match × T_mcase_Codes} (h : L_mcase_Codes_match x0 x1 x2 = some r) : MeetsO Try.prog 77 [VP.eq (.pointer (some ⟨pp0, 0, none⟩)), VP.of (x1), VP.of (x2)] [⟨some pp0, .var (x0 : T_mcase_Codes)⟩] (δ := Unit) (fun d => VP.of (r.1)) (fun d => [⟨some pp0, .var (r.2 : T_mcase_Codes)⟩]) := by
 unfold L_mcase_Codes_match at h
 refine MeetsO.of Try.func77 rfl Try.ntmps77 rfl fun W A => ?_
 refine Qsr ?_
 refine Qbx fun p1 => ?_
 refine Qbx fun p2 => ?_
 refine Qal zr104 fun p3 => ?_
 refine Qnr ?_
 refine Ql0 2 ty33 ?_
 refine Q1 (r_fa fd163_1) ?_
 refine Qld 1 le_T_api_Key_Field ty3 ?_
 obtain ⟨y1,hy1,h⟩:=Qbs h
 refine Qcl en112 (C_mcase_bitsOf hy1) ?_
 refine Qa ?_
 refine Qnr ?_
 refine Qm ?_
 refine Sq.bring 3 rfl ?_
 obtain ⟨y2,hy2,h⟩:=Qbs h
 refine QcO 1 en49 (C_mcase_Codes_Next hy2) fun q1 => ?_
 refine Q1 (r_ci64 Try.underlying3 Try.underlying45) ?_
 refine Qv (r_shl64 (look_t rfl) (look_u64 24 rfl)) ?_
 refine Qm ?_
 refine Sq.bring 0 rfl ?_
 obtain ⟨y3,hy3,h⟩:=Qbs h
 refine QcO 1 en49 (C_mcase_Codes_Next hy3) fun q2 => ?_
 refine Q1 (r_ci64 Try.underlying3 Try.underlying45) ?_
 refine Qv (r_shl64 (look_t rfl) (look_u64 8 rfl)) ?_
 obtain ⟨z1,hz1,h⟩:=Qbs h
 refine Qn hz1 (r_or64 (look_t rfl) (look_t rfl)) ?_
 refine Qm ?_
 refine Sq.bring 0 rfl ?_
 obtain ⟨y4,hy4,h⟩:=Qbs h
 refine QcO 1 en49 (C_mcase_Codes_Next hy4) fun q3 => ?_
 refine Q1 (r_ci64 Try.underlying3 Try.underlying45) ?_
 refine Q2 r_or64 ?_
 obtain ⟨z2,hz2,h⟩:=Qbs h
 refine Qn hz2 (r_build (b := ({ (default : T_api_Value) with f_Lo := z1 ||| (BitVec.ofInt 64 y4.1) } : T_api_Value)) rfl bu47 zr47 (.cons le_T_api_Value_Lo rfl (look_t rfl) rfl (.nil))) ?_
 refine Qm ?_
 obtain ⟨y5,hy5,h⟩:=Qbs h
 refine Qcl en79 (C_mcase_Low hy5) ?_
 refine Qal zr47 fun p4 => ?_
 refine Qs0 0 ty47 ?_
 refine Qns ?_
 refine Qsr ?_
 refine Q1 (r_fa fd163_2) ?_
 refine Qld 3 le_T_api_Key_Kind ty3 ?_
 refine Qnx ?_
 refine Wp.block ?_
 refine Qsr ?_
 refine Q2 r_eql ?_
 refine Qa ?_
 refine Qnx ?_
 refine Qcd h (fun h=>?_) fun h=>?_
 ·refine Qsr ?_
  refine Qm ?_
  refine Sq.bring 1 rfl ?_
  obtain ⟨y6,hy6,h⟩:=Qbs h
  refine QcO 1 en49 (C_mcase_Codes_Next hy6) fun q4 => ?_
  refine Q2 r_gtr ?_
  refine Qnx ?_
  refine Qcd h (fun h=>?_) fun h=>?_
  ·refine Qsr ?_
   refine Qm ?_
   refine Qm ?_
   refine Qm ?_
   refine Sq.bring 0 rfl ?_
   obtain ⟨y7,hy7,h⟩:=Qbs h
   refine QcO 1 en49 (C_mcase_Codes_Next hy7) fun q5 => ?_
   refine Q2 r_add ?_
   refine Qbl [y1, 8, 16, 1, w64 (1 + y7.1)] Try.underlying64 ty3 zr3 ?_
   refine Qm ?_
   refine Sq.bring 0 rfl ?_
   obtain ⟨y8,hy8,h⟩:=Qbs h
   refine QcO 1 en49 (C_mcase_Codes_Next hy8) fun q6 => ?_
   obtain ⟨k1,hk1,h⟩:=Qbs h
   refine Qix hk1 Try.underlying64 ty3 ?_
   refine Q1 (r_loadp ty3) ?_
   refine Qa ?_
   refine Qns ?_
   obtain ⟨y9,hy9,h⟩:=Qbs h
   obtain ⟨z3,hz3,h⟩:=Qbs h
   obtain ⟨z4,hz4,h⟩:=Qbs h
   refine Wp.draw mixed 10 [some 51, some 52, some 53, some 54, some 55, some 56, some 57, some 58, some 59, some 60] [[], [], [1], [], [], [3, 4], [5], [2, 6], [7], [0, 8]] [.val _, .val _, .val _, .val _, .val _, .val _, .val _, .val _, .val _, .val _] [false, false, false, false, false, false, false, false, false, false] (by kernel_rfl) rfl rfl rfl (fun ps1 => ⟨Hm, H1 (r_fa fd47_1), Hld 1 le_T_api_Value_Lo ty45, Hm, Hm, Hcl en113 (C_mcase_mask hy9), Hv fun L' hL => r_field le_T_api_Value_Lo fv47_1 ty45 rfl (look_t rfl) rfl rfl, H2 r_and64, Hn hz3 fun L' hL => r_build (b := ({ (default : T_api_Value) with f_Lo := y5.f_Lo &&& y9.f_Lo } : T_api_Value)) rfl bu47 zr47 (.cons le_T_api_Value_Lo rfl (look_t rfl) rfl (.nil)), Hn hz4 fun L' hL => r_build (b := ({ (default : T_api_Match) with f_Present := true, f_Prefix := lget [y1, 8, 16, 1, w64 (1 + y7.1)] k1, f_Value := z3 } : T_api_Match)) rfl bu104 zr104 (.cons le_T_api_Match_Present rfl (look_bool true) rfl (.cons le_T_api_Match_Prefix rfl (look_t rfl) rfl (.cons le_T_api_Match_Value rfl (look_t rfl) rfl (.nil)))), trivial⟩) fun ps1 => ?_
   refine Qs0 2 ty104 ?_
   refine Qnx ?_
   refine Wp.ret ?_
   refine To.bret ?_
   refine To.ret ?_
   refine To.bring 0 rfl ?_
   obtain rfl:=some_in h
   exact To.endO1 () (.cons_cons _ (List.nil_sublist _)) rfl rfl (rvo_c (i := 2) ty104 rfl rfl)
  ·refine Wp.skip ?_
   refine To.bnorm ?_
   refine To.next ?_
   refine Qsr ?_
   refine Qbd bu104 zr104 (default : T_api_Match) .nil ?_
   refine Qs0 2 ty104 ?_
   refine Qnx ?_
   refine Wp.ret ?_
   refine To.bring 0 rfl ?_
   obtain rfl:=some_in h
   exact To.endO1 () (.cons_cons _ (List.nil_sublist _)) rfl rfl (rvo_c (i := 2) ty104 rfl rfl)
 ·refine Qsr ?_
  refine Q2 r_eql ?_
  refine Qa ?_
  refine Qnx ?_
  refine Qcd h (fun h=>?_) fun h=>?_
  ·refine Qsr ?_
   refine Qm ?_
   refine Sq.bring 1 rfl ?_
   obtain ⟨y10,hy10,h⟩:=Qbs h
   refine QcO 1 en49 (C_mcase_Codes_Next hy10) fun q7 => ?_
   refine Qbl ([255, 15, 1, 12, y10.1] : List Int) Try.underlying64 ty3 zr3 ?_
   refine Qm ?_
   refine Sq.bring 0 rfl ?_
   obtain ⟨y11,hy11,h⟩:=Qbs h
   refine QcO 1 en49 (C_mcase_Codes_Next hy11) fun q8 => ?_
   obtain ⟨k2,hk2,h⟩:=Qbs h
   refine Qix hk2 Try.underlying64 ty3 ?_
   refine Q1 (r_loadp ty3) ?_
   refine Q1 (r_ci64 Try.underlying3 Try.underlying45) ?_
   obtain ⟨z5,hz5,h⟩:=Qbs h
   refine Qn hz5 (r_build (b := ({ (default : T_api_Value) with f_Lo := BitVec.ofInt 64 (lget ([255, 15, 1, 12, y10.1] : List Int) k2) } : T_api_Value)) rfl bu47 zr47 (.cons le_T_api_Value_Lo rfl (look_t rfl) rfl (.nil))) ?_
   refine Qm ?_
   obtain ⟨y12,hy12,h⟩:=Qbs h
   refine Qcl en79 (C_mcase_Low hy12) ?_
   refine Qal zr47 fun p5 => ?_
   refine Qs0 0 ty47 ?_
   refine Qnr ?_
   refine Q1 (r_fa fd47_1) ?_
   refine Qld 0 le_T_api_Value_Lo ty45 ?_
   refine Qv (r_neq64 (look_t rfl) (look_u64 0 rfl)) ?_
   refine Qnx ?_
   refine Qcd h (fun h=>?_) fun h=>?_
   ·refine Qsr ?_
    refine Ql0 0 ty47 ?_
    refine Q1 (r_fa fd47_1) ?_
    refine Qld 2 le_T_api_Value_Lo ty45 ?_
    refine Q1 (r_fa fd47_1) ?_
    refine Qld 0 le_T_api_Value_Lo ty45 ?_
    refine Q2 r_and64 ?_
    obtain ⟨z6,hz6,h⟩:=Qbs h
    refine Qn hz6 (r_build (b := ({ (default : T_api_Value) with f_Lo := y5.f_Lo &&& y12.f_Lo } : T_api_Value)) rfl bu47 zr47 (.cons le_T_api_Value_Lo rfl (look_t rfl) rfl (.nil))) ?_
    obtain ⟨z7,hz7,h⟩:=Qbs h
    refine Qn hz7 (r_build (b := ({ (default : T_api_Match) with f_Present := true, f_Mask := y12, f_Value := z6 } : T_api_Match)) rfl bu104 zr104 (.cons le_T_api_Match_Present rfl (look_bool true) rfl (.cons le_T_api_Match_Mask rfl (look_t rfl) rfl (.cons le_T_api_Match_Value rfl (look_t rfl) rfl (.nil))))) ?_
    refine Qs0 3 ty104 ?_
    refine Qnx ?_
    refine Wp.ret ?_
    refine To.bret ?_
    refine To.ret ?_
    refine To.bring 1 rfl ?_
    obtain rfl:=some_in h
    exact To.endO1 () (.cons_cons _ (List.nil_sublist _)) rfl rfl (rvo_c (i := 3) ty104 rfl rfl)
   ·refine Wp.skip ?_
    refine To.bnorm ?_
    refine To.next ?_
    refine Qsr ?_
    refine Qbd bu104 zr104 (default : T_api_Match) .nil ?_
    refine Qs0 3 ty104 ?_
    refine Qnx ?_
    refine Wp.ret ?_
    refine To.bring 1 rfl ?_
    obtain rfl:=some_in h
    exact To.endO1 () (.cons_cons _ (List.nil_sublist _)) rfl rfl (rvo_c (i := 3) ty104 rfl rfl)
  ·refine Qsr ?_
   refine Q2 r_eql ?_
   refine Qa ?_
   refine Qnx ?_
   refine Qcd h (fun h=>?_) fun h=>?_
   ·refine Wp.seq ?_
    obtain ⟨y13,hy13,h⟩:=Qbs h
    obtain ⟨z8,hz8,h⟩:=Qbs h
    refine Qwl [0, 1, 2, 4, 5, 6, 7, 8, 12, 13, 14, 15, 16, 17, 18, 19, 20, 21, 22, 23, 24, 25, 26, 27, 28, 29, 30, 31, 32, 33, 36, 37, 61, 62, 85, 86] ?_
    refine Wp.drawD mixed (Hp 87 [] [] _ :: Hp 88 (0 :: []) (0 :: []) _ :: Hp 89 [] [] _ :: ⟨some 90, (2 :: []), (1 :: []), (1 :: []), fun _ => VP.of (y13.1), fun hd _ => ⟨some pp0, .var (y13.2 : T_mcase_Codes)⟩⟩ :: Hp 91 (3 :: []) [] _ :: Hp 92 (1 :: 4 :: []) [] _ :: Hp 93 [] [] _ :: Hp 94 (6 :: []) [] _ :: Hp 95 (7 :: []) [] _ :: Hp 96 (8 :: []) [] _ :: Hp 97 (5 :: 9 :: []) [] _ :: Hp 11 (10 :: []) [] _ :: []) _ (0 :: 1 :: 2 :: 4 :: 5 :: 6 :: 7 :: 8 :: 12 :: 13 :: 14 :: 15 :: 16 :: 17 :: 18 :: 19 :: 20 :: 21 :: 22 :: 23 :: 24 :: 25 :: 26 :: 27 :: 28 :: 29 :: 30 :: 31 :: 32 :: 33 :: 36 :: 37 :: 61 :: 62 :: 85 :: 86 :: []) rfl rfl (by kernel_rfl) ⟨D1 (r_fa fd47_1), Dld 0 le_T_api_Value_Lo ty45, Dm, ?_, D1 (r_ci64 Try.underlying3 Try.underlying45), D2 r_add64, Dm, D1 (r_ci64 Try.underlying3 Try.underlying173), Dv fun hd E' L' hE hL => r_shl64 (look_u64 1 rfl) (look_t (hE _ _ rfl)), Dv fun hd E' L' hE hL => r_sub64 (look_t (hE _ _ rfl)) (look_u64 1 rfl), Dv fun hd E' L' hE hL => (r_minu64 (look_t (hE _ _ rfl)) (look_t (hE _ _ rfl))).as (some_in hz8), Dv fun hd E' L' hE hL => r_asg (look_t (hE _ _ rfl)), trivial⟩ fun hd => ?_
    ·intro hd E' L' hE hL
     refine Sq.bring 1 (hL 1 _ rfl rfl) ?_
     refine Sq.callO (Lin := [⟨some pp0, .var (y4.2 : T_mcase_Codes)⟩]) (Lr := L'.eraseIdx 1) en49 (C_mcase_Codes_Next hy13) ⟨look_t (hE _ _ rfl), look_int 256, trivial⟩ rfl fun q9 => ?_
     refine Sq.nil ?_
     refine To.back 1 (hL 1 _ rfl rfl) ?_
     exact To.fin (gm []) rfl rfl
    refine To.eqL (L2 := [⟨some p4, .var (y5 : T_api_Value)⟩, ⟨some pp0, .var (y13.2 : T_mcase_Codes)⟩, ⟨some p3, .var ((default : T_api_Match) : T_api_Match)⟩, ⟨some p2, .var (x2 : T_api_Key)⟩, ⟨some p1, .var (x1 : T_api_Schema)⟩]) rfl ?_
    refine Qtl [0, 1, 2, 4, 5, 6, 7, 8, 11, 12, 13, 14, 15, 16, 17, 18, 19, 20, 21, 22, 23, 24, 25, 26, 27, 28, 29, 30, 31, 32, 33, 36, 37, 61, 62, 85, 86, 87, 88, 89, 90, 91, 92, 93, 94, 95, 96, 97] ?_
    refine To.next ?_
    refine Qsr ?_
    refine Qm ?_
    refine Sq.bring 1 rfl ?_
    obtain ⟨y14,hy14,h⟩:=Qbs h
    refine QcO 1 en49 (C_mcase_Codes_Next hy14) fun q10 => ?_
    refine Q2 r_gtr ?_
    refine Qm ?_
    refine Qg1 (r_fa fd47_1) ?_
    refine Qg (fun hb => r_load (i := 1) ((Lens.id T_api_Value).comp le_T_api_Value_Lo) (r := y5.f_Lo) ty45 (look_tc rfl hb) rfl rfl rfl) ?_
    refine Qg (fun hb => r_eql64 (look_tc rfl hb) (look_u64 0 rfl)) ?_
    refine Qg1 r_move ?_
    refine Sq.gg (fun hb => r_move (look_t rfl)) rfl rfl rfl rfl rfl ?_
    refine Sq.gg (fun hb => r_move (look_t rfl)) rfl rfl rfl rfl rfl ?_
    refine Sq.gg (fun hb => r_ci64 Try.underlying3 Try.underlying173 (look_tc rfl hb)) rfl rfl rfl rfl rfl ?_
    refine Sq.gg (fun hb => r_shl64 (look_u64 1 rfl) (look_tc rfl hb)) rfl rfl rfl rfl rfl ?_
    refine Sq.gg (fun hb => r_sub64 (look_tc rfl hb) (look_u64 1 rfl)) rfl rfl rfl rfl rfl ?_
    refine Sq.gg (fun hb => r_eql64 (look_tc rfl hb) (look_tc rfl hb)) rfl rfl rfl rfl rfl ?_
    refine Qg (fun hb => r_and (look_tc rfl hb) (look_t rfl) (fun h => ⟨hb, h⟩)) ?_
    refine Qg1 r_not ?_
    obtain ⟨z9,hz9,h⟩:=Qbs h
    refine Qn hz9 (r_and (look_t rfl) (look_t rfl) (fun h => h)) ?_
    refine Qnx ?_
    refine Qcd h (fun h=>?_) fun h=>?_
    ·refine Qsr ?_
     refine Ql0 1 ty47 ?_
     refine Qm ?_
     refine Qbd bu47 zr47 ({ (default : T_api_Value) with f_Lo := z8 } : T_api_Value) (Qfl le_T_api_Value_Lo .nil) ?_
     obtain ⟨z10,hz10,h⟩:=Qbs h
     refine Qn hz10 (r_build (b := ({ (default : T_api_Match) with f_Present := true, f_Value := y5, f_High := ({ (default : T_api_Value) with f_Lo := z8 } : T_api_Value) } : T_api_Match)) rfl bu104 zr104 (.cons le_T_api_Match_Present rfl (look_bool true) rfl (.cons le_T_api_Match_Value rfl (look_t rfl) rfl (.cons le_T_api_Match_High rfl (look_t rfl) rfl (.nil))))) ?_
     refine Qs0 2 ty104 ?_
     refine Qnx ?_
     refine Wp.ret ?_
     refine To.bret ?_
     refine To.ret ?_
     refine To.bring 0 rfl ?_
     obtain rfl:=some_in h
     exact To.endO1 () (.cons_cons _ (List.nil_sublist _)) rfl rfl (rvo_c (i := 2) ty104 rfl rfl)
    ·refine Wp.skip ?_
     refine To.bnorm ?_
     refine To.next ?_
     refine Qsr ?_
     refine Qbd bu104 zr104 (default : T_api_Match) .nil ?_
     refine Qs0 2 ty104 ?_
     refine Qnx ?_
     refine Wp.ret ?_
     refine To.bring 0 rfl ?_
     obtain rfl:=some_in h
     exact To.endO1 () (.cons_cons _ (List.nil_sublist _)) rfl rfl (rvo_c (i := 2) ty104 rfl rfl)
   ·refine Qsr ?_
    refine Ql0 0 ty47 ?_
    obtain ⟨z11,hz11,h⟩:=Qbs h
    refine Qn hz11 (r_build (b := ({ (default : T_api_Match) with f_Present := true, f_Value := y5 } : T_api_Match)) rfl bu104 zr104 (.cons le_T_api_Match_Present rfl (look_bool true) rfl (.cons le_T_api_Match_Value rfl (look_t rfl) rfl (.nil)))) ?_
    refine Qs0 2 ty104 ?_
    refine Qnx ?_
    refine Wp.ret ?_
    refine To.bret ?_
    refine To.ret ?_
    refine To.bring 1 rfl ?_
    obtain rfl:=some_in h
    exact To.endO1 () (.cons_cons _ (List.nil_sublist _)) rfl rfl (rvo_c (i := 2) ty104 rfl rfl)
theorem C_entry_table {x0 : T_api_Schema} {x1 : T_api_Entry}  {r : T_api_Table × Bool} (h : L_entry_table x0 x1 = some r) : Meets Try.prog 139 [VP.of (x0), VP.of (x1)] (VP.tup [VP.of (r.1), VP.of (r.2)]) := by
 unfold L_entry_table at h
 refine Meets.of Try.func139 rfl Try.ntmps139 rfl fun W A => ?_
 refine Qsr ?_
 refine Qbx fun p1 => ?_
 refine Qbx fun p2 => ?_
 refine Qal zr136 fun p3 => ?_
 refine Qa ?_
 refine Qnr ?_
 refine Ql0 2 ty33 ?_
 refine Q1 (r_fa fd89_0) ?_
 refine Qld 1 le_T_api_Entry_Table ty3 ?_
 obtain ⟨y1,hy1,h⟩:=Qbs h
 refine Qcl en126 (C_check_TableOf hy1) ?_
 refine Qa ?_
 refine Qns ?_
 refine Qsr ?_
 refine Qm ?_
 refine Q2 r_lss ?_
 refine Qnx ?_
 refine Qcd h (fun h=>?_) fun h=>?_
 ·refine Qsr ?_
  refine Qbd bu136 zr136 (default : T_api_Table) .nil ?_
  refine Qs0 0 ty136 ?_
  refine Qa ?_
  refine Qnx ?_
  refine Wp.ret ?_
  refine To.ret ?_
  obtain rfl:=some_in h
  exact To.end2 rfl (Qrc 0 ty136) (rv_t rfl)
 ·refine Qkn ?_
  refine Qsr ?_
  refine Q1 (r_fa fd33_4) ?_
  refine Qld 2 le_T_api_Schema_Tables ty28 ?_
  refine Qm ?_
  obtain ⟨k1,hk1,h⟩:=Qbs h
  refine Qix hk1 Try.underlying28 ty136 ?_
  refine Q1 (r_loadp ty136) ?_
  refine Qs0 0 ty136 ?_
  refine Qa ?_
  refine Qnx ?_
  refine Wp.ret ?_
  obtain rfl:=some_in h
  exact To.end2 rfl (Qrc 0 ty136) (rv_t rfl)
end Go.Proofs.Ytodajdohokmjnaa

