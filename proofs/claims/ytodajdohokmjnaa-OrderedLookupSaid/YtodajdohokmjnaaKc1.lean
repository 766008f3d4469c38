/-
  Each function meets its functional program. Conditions: none.
-/
import Derived.Test.YtodajdohokmjnaaKc0
import Derived.Test.YtodajdohokmjnaaKd
namespace Go.Proofs.Ytodajdohokmjnaa
open Go Gv
set_option linter.unusedVariables false
set_option linter.unusedSimpArgs false
set_option maxRecDepth 100000
set_option maxHeartbeats 2000000
theorem C_ref01_Read {x0 : T_api_Value}  {r : (Vector Bool 128)} (h : L_ref01_Read x0 = some r) : Meets Try.prog 111 [VP.of (x0)] (VP.of (r)) := by
 unfold L_ref01_Read at h
 refine Meets.of Try.func111 rfl Try.ntmps111 rfl fun W A => ?_
 refine Qsr ?_
 refine Qbx fun p1 => ?_
 refine Qal zr222 fun p2 => ?_
 refine Qnr ?_
 refine Qal zr222 fun p3 => ?_
 refine Qns ?_
 refine Qsr ?_
 refine Qa ?_
 refine Qnx ?_
 refine Wp.block ?_
 obtain ⟨e1,hl,h⟩:=Qbs h
 refine Qlp (γ:=Unit) (δ:=Unit) hl [0, 1, 2, 3] (fun s1 g1 => [(4, VP.of (s1.1))]) (fun s1 g1 => [(0, ⟨some p3, .var (s1.2 : Vector Bool 128)⟩)]) (fun q1 => Exit.exit 0) (fun q1 g1 => [(4, VP.of (q1.1)), (6, VP.of (q1.2.1))]) (fun q1 g1 => [(0, ⟨some p3, .var (q1.2.2 : Vector Bool 128)⟩)]) () (fun s1 r h g1 => ?_) fun g1 => ?_
 ·clear hl
  refine Wp.seq ?_
  refine Qsr ?_
  refine Qm ?_
  refine Q2 r_lss ?_
  refine Qnx ?_
  refine Qcd h (fun h=>?_) fun h=>?_
  ·refine Qkn ?_
   refine Wp.seq ?_
   refine Wp.block ?_
   obtain ⟨k1,hk1,h⟩:=Qbs h
   obtain ⟨z1,hz1,h⟩:=Qbs h
   refine Wp.draw mixed 19 ((some 9) :: (some 10) :: (some 11) :: (some 12) :: (some 13) :: (some 14) :: (some 15) :: (some 16) :: (some 17) :: (some 18) :: (some 19) :: (some 20) :: (some 21) :: (some 22) :: (some 23) :: (some 24) :: (some 25) :: (some 26) :: none :: []) ([] :: [] :: [1] :: [] :: [3] :: [] :: [5] :: [4, 6] :: [7] :: [8] :: [] :: [10] :: [] :: [12] :: [11, 13] :: [14] :: [15] :: [0] :: [9, 17] :: []) (.val _ :: .val _ :: .val _ :: .val _ :: .val _ :: .val _ :: .val _ :: .val _ :: .val _ :: .val _ :: .val _ :: .val _ :: .val _ :: .val _ :: .val _ :: .val _ :: .val _ :: .val _ :: .sto 0 (.var (z1 : Vector Bool 128)) :: []) (false :: false :: false :: false :: false :: false :: false :: false :: false :: false :: false :: false :: false :: false :: false :: false :: false :: false :: true :: []) (by kernel_rfl) rfl rfl rfl (fun ps1 => ⟨Hm, Hm, H2 r_add, H1 (r_fa fd47_1), Hld 2 le_T_api_Value_Lo ty45, Hm, H1 (r_ci64 Try.underlying3 Try.underlying173), H2 r_shr64, Hv fun L' hL => r_and64 (look_t rfl) (look_u64 1 rfl), Hv fun L' hL => r_eql64 (look_t rfl) (look_u64 1 rfl), H1 (r_fa fd47_0), Hld 2 le_T_api_Value_Hi ty45, Hm, H1 (r_ci64 Try.underlying3 Try.underlying173), H2 r_shr64, Hv fun L' hL => r_and64 (look_t rfl) (look_u64 1 rfl), Hv fun L' hL => r_eql64 (look_t rfl) (look_u64 1 rfl), Hv fun L' hL => r_ia (k := k1) ar222 (look_t rfl) (look_t rfl) (idx_some hk1), ⟨_, _, rfl, fun L' hL => so_var (i := 0) ((Lens.id (Vector Bool 128)).comp (Lens.idx (α := Bool) 128 k1 (idx_some hk1).1)) (v := (((x0.f_Lo >>> (BitVec.ofInt 64 s1.1).toNat) &&& (1#64)) == (1#64) : Bool)) (b' := (z1 : Vector Bool 128)) ty4 (look_t rfl) (look_t rfl) (hL _ _ rfl) rfl (some_in hz1)⟩, trivial⟩) fun ps1 => ?_
   obtain ⟨k2,hk2,h⟩:=Qbs h
   refine Qv (r_ia (k := k2) ar222 (look_t rfl) (look_t rfl) (idx_some hk2)) ?_
   obtain ⟨z2,hz2,h⟩:=Qbs h
   refine Qsn 0 ((Lens.id (Vector Bool 128)).comp (Lens.idx (α := Bool) 128 k2 (idx_some hk2).1)) ty4 (hb := by exact hz2) ?_
   refine Sq.nil ?_
   refine To.bnorm ?_
   refine To.next ?_
   refine Wp.reg ?_
   refine Qm ?_
   refine Q2 r_add ?_
   refine Qa ?_
   refine Sq.nil ?_
   obtain rfl:=some_in h
   exact Qrd () 0
  ·refine Wp.exit ?_
   refine To.exit ?_
   obtain rfl:=some_in h
   exact Qlv () 0
 ·clear hl
  refine To.bexit ?_
  refine To.next ?_
  refine Qsr ?_
  refine Ql0 0 ty222 ?_
  refine Qs0 1 ty222 ?_
  refine Qnx ?_
  refine Wp.ret ?_
  obtain rfl:=some_in h
  exact To.end1 rfl (Qrc 1 ty222)
theorem C_ref01_Make {x0 : Vector Bool 128}  {r : T_api_Value} (h : L_ref01_Make x0 = some r) : Meets Try.prog 148 [VP.of (x0)] (VP.of (r)) := by
 unfold L_ref01_Make at h
 refine Meets.of Try.func148 rfl Try.ntmps148 rfl fun W A => ?_
 refine Qsr ?_
 refine Qbx fun p1 => ?_
 refine Qal zr47 fun p2 => ?_
 refine Qnr ?_
 refine Qal zr47 fun p3 => ?_
 refine Qns ?_
 refine Qsr ?_
 refine Qa ?_
 refine Qnx ?_
 refine Wp.block ?_
 obtain ⟨e1,hl,h⟩:=Qbs h
 refine Qlp (γ:=Unit) (δ:=Unit) hl [0, 1, 2, 3] (fun s1 g1 => [(4, VP.of (s1.1))]) (fun s1 g1 => [(0, ⟨some p3, .var (s1.2 : T_api_Value)⟩)]) (fun q1 => Exit.exit 0) (fun q1 g1 => [(4, VP.of (q1.1)), (6, VP.of (q1.2.1))]) (fun q1 g1 => [(0, ⟨some p3, .var (q1.2.2 : T_api_Value)⟩)]) () (fun s1 r h g1 => ?_) fun g1 => ?_
 ·clear hl
  refine Wp.seq ?_
  refine Qsr ?_
  refine Qm ?_
  refine Q2 r_lss ?_
  refine Qnx ?_
  refine Qcd h (fun h=>?_) fun h=>?_
  ·refine Qkn ?_
   refine Wp.seq ?_
   refine Wp.block ?_
   refine Wp.seq ?_
   refine Qsr ?_
   refine Qm ?_
   obtain ⟨k1,hk1,h⟩:=Qbs h
   refine Qv (r_ia (k := k1) ar222 (look_t rfl) (look_t rfl) (idx_some hk1)) ?_
   refine Qld 2 ((Lens.id (Vector Bool 128)).comp (Lens.idx (α := Bool) 128 k1 (idx_some hk1).1)) ty4 ?_
   refine Qnx ?_
   obtain ⟨m1,hm1,h⟩:=Qbs h
   refine Qcm (γ:=Unit) [0, 1, 2, 3, 4, 6, 11] (fun g2 => []) (fun g2 => [(0, ⟨some p3, .var (m1 : T_api_Value)⟩)]) (fun g2 => ?_) (fun hm hc => ?_) fun hm hc => ?_
   ·clear hm1
    refine To.next ?_
    refine Qsr ?_
    refine Qm ?_
    refine Q2 r_add ?_
    obtain ⟨k2,hk2,h⟩:=Qbs h
    refine Qv (r_ia (k := k2) ar222 (look_t rfl) (look_t rfl) (idx_some hk2)) ?_
    refine Qld 2 ((Lens.id (Vector Bool 128)).comp (Lens.idx (α := Bool) 128 k2 (idx_some hk2).1)) ty4 ?_
    refine Qnx ?_
    obtain ⟨m2,hm2,h⟩:=Qbs h
    refine Qcm (γ:=Unit) [0, 1, 2, 3, 4, 6, 11, 22] (fun g3 => []) (fun g3 => [(0, ⟨some p3, .var (m2 : T_api_Value)⟩)]) (fun g3 => ?_) (fun hm hc => ?_) fun hm hc => ?_
    ·clear hm2
     refine To.bnorm ?_
     refine To.next ?_
     refine Wp.reg ?_
     refine Qm ?_
     refine Q2 r_add ?_
     refine Qa ?_
     refine Sq.nil ?_
     obtain rfl:=some_in h
     exact Qrd () 0
    ·have h := cond_t hc hm2
     refine Wp.reg ?_
     refine Q1 (r_fa fd47_0) ?_
     refine Qld 0 le_T_api_Value_Hi ty45 ?_
     refine Qm ?_
     refine Q1 (r_ci64 Try.underlying3 Try.underlying173) ?_
     refine Qv (r_shl64 (look_u64 1 rfl) (look_t rfl)) ?_
     refine Q2 r_or64 ?_
     refine Q1 (r_fa fd47_0) ?_
     obtain ⟨z1,hz1,h⟩:=Qbs h
     refine Qsn 0 le_T_api_Value_Hi ty45 (hb := by exact hz1) ?_
     refine Sq.nil ?_
     obtain rfl:=some_in h
     exact Qmt 0 (hm ())
    ·have h := cond_f hc hm2
     refine Wp.skip ?_
     obtain rfl:=some_in h
     exact Qmt 0 (hm ())
   ·have h := cond_t hc hm1
    refine Wp.reg ?_
    refine Q1 (r_fa fd47_1) ?_
    refine Qld 0 le_T_api_Value_Lo ty45 ?_
    refine Qm ?_
    refine Q1 (r_ci64 Try.underlying3 Try.underlying173) ?_
    refine Qv (r_shl64 (look_u64 1 rfl) (look_t rfl)) ?_
    refine Q2 r_or64 ?_
    refine Q1 (r_fa fd47_1) ?_
    obtain ⟨z2,hz2,h⟩:=Qbs h
    refine Qsn 0 le_T_api_Value_Lo ty45 (hb := by exact hz2) ?_
    refine Sq.nil ?_
    obtain rfl:=some_in h
    exact Qmt 0 (hm ())
   ·have h := cond_f hc hm1
    refine Wp.skip ?_
    obtain rfl:=some_in h
    exact Qmt 0 (hm ())
  ·refine Wp.exit ?_
   refine To.exit ?_
   obtain rfl:=some_in h
   exact Qlv () 0
 ·clear hl
  refine To.bexit ?_
  refine To.next ?_
  refine Qsr ?_
  refine Ql0 0 ty47 ?_
  refine Qs0 1 ty47 ?_
  refine Qnx ?_
  refine Wp.ret ?_
  obtain rfl:=some_in h
  exact To.end1 rfl (Qrc 1 ty47)
theorem C_ref10_number {x0 : Int} {x1 : Int}  {r : Int} (h : L_ref10_number x0 x1 = some r) : Meets Try.prog 150 [VP.of (x0), VP.of (x1)] (VP.of (r)) := by
 unfold L_ref10_number at h
 refine Meets.of Try.func150 rfl Try.ntmps150 rfl fun W A => ?_
 refine Qsr ?_
 refine Qa ?_
 refine Qns ?_
 refine Wp.block ?_
 refine Qsr ?_
 refine Qm ?_
 refine Qm ?_
 refine Q2 r_lss ?_
 refine Qa ?_
 refine Qnx ?_
 refine Qcd h (fun h=>?_) fun h=>?_
 ·refine Qsr ?_
  refine Qa ?_
  refine Qnx ?_
  refine Wp.ret ?_
  refine To.bret ?_
  refine To.ret ?_
  obtain rfl:=some_in h
  exact Qe1
 ·refine Qsr ?_
  refine Qm ?_
  refine Qm ?_
  refine Q2 r_gtr ?_
  refine Qa ?_
  refine Qnx ?_
  refine Qcd h (fun h=>?_) fun h=>?_
  ·refine Qsr ?_
   refine Qa ?_
   refine Qnx ?_
   refine Wp.ret ?_
   refine To.bret ?_
   refine To.ret ?_
   obtain rfl:=some_in h
   exact Qe1
  ·refine Wp.skip ?_
   refine To.bnorm ?_
   refine To.next ?_
   refine Qsr ?_
   refine Qa ?_
   refine Qnx ?_
   refine Wp.ret ?_
   obtain rfl:=some_in h
   exact Qe1
theorem Cf0_ordered_List_Len {x0 : T_ordered_List}  {r : Int} (h : Lf0_ordered_List_Len x0 = some r) : Meets Try.prog 46 [VP.ptr x0] (VP.of (r)) := by
 unfold Lf0_ordered_List_Len at h
 refine Meets.of Try.func46 rfl Try.ntmps46 rfl fun W A => ?_
 refine Qsr ?_
 refine Qa ?_
 refine Qns ?_
 refine Qsr ?_
 refine Qm ?_
 refine Qv (r_pnilp Try.underlying82 (look_t rfl)) ?_
 refine Qnx ?_
 refine Wp.condF (look_t rfl) rfl ?_
 refine Qkn ?_
 refine Qsr ?_
 refine Qm ?_
 refine Q1 r_nckp ?_
 refine Qfp le_T_ordered_List_l fd161_1 ?_
 refine Q1 (r_loadp ty84) ?_
 refine Q1 (r_len Try.underlying84) ?_
 refine Qa ?_
 refine Qnx ?_
 refine Wp.ret ?_
 obtain rfl:=some_in h
 exact Qe1
theorem C_mcase_Codes_Next {x0 : T_mcase_Codes} {x1 : Int} {pp0 : Nat} {r : Int × T_mcase_Codes} (h : L_mcase_Codes_Next x0 x1 = some r) : MeetsO Try.prog 49 [VP.eq (.pointer (some ⟨pp0, 0, none⟩)), VP.of (x1)] [⟨some pp0, .var (x0 : T_mcase_Codes)⟩] (δ := Unit) (fun d => VP.of (r.1)) (fun d => [⟨some pp0, .var (r.2 : T_mcase_Codes)⟩]) := by
 unfold L_mcase_Codes_Next at h
 refine MeetsO.of Try.func49 rfl Try.ntmps49 rfl fun W A => ?_
 refine Qsr ?_
 refine Qa ?_
 refine Qns ?_
 refine Qsr ?_
 refine Qm ?_
 obtain ⟨y1,hy1,h⟩:=Qbs h
 refine Sq.vS (HS.call [0] en76 (C_mcase_Codes_Left hy1) ⟨look_t rfl, trivial⟩ rfl ⟨rfl, trivial⟩ rfl) rfl rfl rfl ?_
 refine Q1 r_not ?_
 refine Qm ?_
 refine Qg1 r_move ?_
 refine Qg2 r_lss ?_
 refine Qor ?_
 refine Qnx ?_
 refine Qcd h (fun h=>?_) fun h=>?_
 ·refine Qsr ?_
  refine Qa ?_
  refine Qnx ?_
  refine Wp.ret ?_
  refine To.ret ?_
  refine To.bring 0 rfl ?_
  obtain rfl:=some_in h
  exact Qo1 ()
 ·refine Qkn ?_
  refine Qsr ?_
  refine Qm ?_
  refine Q1 r_nck ?_
  refine Q1 (r_fa fd120_1) ?_
  refine Qld 0 le_T_mcase_Codes_at ty3 ?_
  refine Q2 r_add ?_
  refine Q1 r_nck ?_
  refine Q1 (r_fa fd120_1) ?_
  refine Qst 0 le_T_mcase_Codes_at ty3 ?_
  refine Qns ?_
  obtain ⟨k1,hk1,h⟩:=Qbs h
  obtain ⟨y2,hy2,h⟩:=Qbs h
  refine Wp.draw mixed 14 [some 19, some 20, some 21, some 22, some 23, some 24, some 25, some 26, some 27, some 28, some 29, some 30, some 31, some 32] [[], [0], [1], [2], [], [4], [5], [6], [7], [3, 8], [9], [10], [], [11, 12]] [.val _, .val _, .val _, .val _, .val _, .val _, .val _, .val _, .val _, .val _, .val _, .val _, .val _, .val _] [false, false, false, false, false, false, false, false, false, false, false, false, false, false] (by kernel_rfl) rfl rfl rfl (fun ps1 => ⟨Hm, H1 r_nck, H1 (r_fa fd120_0), Hld 0 le_T_mcase_Codes_l ty22, Hm, H1 r_nck, H1 (r_fa fd120_1), Hld 0 le_T_mcase_Codes_at ty3, H2 r_sub, Hix hk1 Try.underlying22 ty5, H1 (r_loadp ty5), H1 (r_c8i Try.underlying5 Try.underlying3), Hm, Hv fun L' hL => r_rem (look_t rfl) (look_t rfl) (modM_some hy2), trivial⟩) fun ps1 => ?_
  refine Qa ?_
  refine Qnx ?_
  refine Wp.ret ?_
  refine To.bring 0 rfl ?_
  obtain rfl:=some_in h
  exact Qo1 ()
theorem Cf0_ordered_List_find {x0 : T_ordered_List} {x1 : Int}  {r : Int} (h : Lf0_ordered_List_find x0 x1 = some r) : Meets Try.prog 82 [VP.ptr x0, VP.of (x1)] (VP.of (r)) := by
 unfold Lf0_ordered_List_find at h
 refine Meets.of Try.func82 rfl Try.ntmps82 rfl fun W A => ?_
 refine Qsr ?_
 refine Qbx fun p1 => ?_
 refine Qa ?_
 refine Qns ?_
 refine Qsr ?_
 refine Qm ?_
 refine Qv (r_pnilp Try.underlying82 (look_t rfl)) ?_
 refine Qnx ?_
 refine Wp.condF (look_t rfl) rfl ?_
 refine Qkn ?_
 refine Qsr ?_
 refine Qm ?_
 refine Q1 r_nckp ?_
 refine Qfp le_T_ordered_List_l fd161_1 ?_
 refine Q1 (r_loadp ty84) ?_
 refine Sq.share (α := Int) 0 3 rfl rfl ?_
 refine Qv (r_clo1 (F := (fun a0 => L_ordered_List_find_fn1 a0 x1)) (τs := [VP.ptr x1]) en118 ⟨look_t rfl, trivial⟩ (fun _ _ h => C_ordered_List_find_fn1 h)) ?_
 obtain ⟨y1,hy1,h⟩:=Qbs h
 refine Qcl en117 (C_slices_IndexFunc_api_Installed hy1) ?_
 refine Qa ?_
 refine Qnx ?_
 refine Wp.ret ?_
 obtain rfl:=some_in h
 exact Qe1
theorem C_cmp_Compare_int {x0 : Int} {x1 : Int}  {r : Int} (h : L_cmp_Compare_int x0 x1 = some r) : Meets Try.prog 145 [VP.of (x0), VP.of (x1)] (VP.of (r)) := by
 unfold L_cmp_Compare_int at h
 refine Meets.of Try.func145 rfl Try.ntmps145 rfl fun W A => ?_
 refine Qsr ?_
 refine Qa ?_
 refine Qnr ?_
 refine Qm ?_
 obtain ⟨y1,hy1,h⟩:=Qbs h
 refine Qcl en178 (C_cmp_isNaN_int hy1) ?_
 refine Qa ?_
 refine Qnr ?_
 refine Qm ?_
 obtain ⟨y2,hy2,h⟩:=Qbs h
 refine Qcl en178 (C_cmp_isNaN_int hy2) ?_
 refine Qa ?_
 refine Qns ?_
 refine Qsr ?_
 refine Qm ?_
 refine Qnx ?_
 refine Qcd h (fun h=>?_) fun h=>?_
 ·refine Wp.seq ?_
  refine Qsr ?_
  refine Qm ?_
  refine Qnx ?_
  refine Qcd h (fun h=>?_) fun h=>?_
  ·refine Qsr ?_
   refine Qa ?_
   refine Qnx ?_
   refine Wp.ret ?_
   refine To.ret ?_
   refine To.ret ?_
   obtain rfl:=some_in h
   exact Qe1
  ·refine Qkn ?_
   refine Qsr ?_
   refine Qa ?_
   refine Qnx ?_
   refine Wp.ret ?_
   refine To.ret ?_
   obtain rfl:=some_in h
   exact Qe1
 ·refine Qkn ?_
  refine Wp.seq ?_
  refine Qsr ?_
  refine Qm ?_
  refine Qnx ?_
  refine Qcd h (fun h=>?_) fun h=>?_
  ·refine Qsr ?_
   refine Qa ?_
   refine Qnx ?_
   refine Wp.ret ?_
   refine To.ret ?_
   obtain rfl:=some_in h
   exact Qe1
  ·refine Qkn ?_
   refine Wp.seq ?_
   refine Qsr ?_
   refine Qm ?_
   refine Qm ?_
   refine Q2 r_lss ?_
   refine Qnx ?_
   refine Qcd h (fun h=>?_) fun h=>?_
   ·refine Qsr ?_
    refine Qa ?_
    refine Qnx ?_
    refine Wp.ret ?_
    refine To.ret ?_
    obtain rfl:=some_in h
    exact Qe1
   ·refine Qkn ?_
    refine Wp.seq ?_
    refine Qsr ?_
    refine Qm ?_
    refine Qm ?_
    refine Q2 r_gtr ?_
    refine Qnx ?_
    refine Qcd h (fun h=>?_) fun h=>?_
    ·refine Qsr ?_
     refine Qa ?_
     refine Qnx ?_
     refine Wp.ret ?_
     refine To.ret ?_
     obtain rfl:=some_in h
     exact Qe1
    ·refine Qkn ?_
     refine Qsr ?_
     refine Qa ?_
     refine Qnx ?_
     refine Wp.ret ?_
     obtain rfl:=some_in h
     exact Qe1
theorem C_check_TableOf {x0 : T_api_Schema} {x1 : Int}  {r : Int} (h : L_check_TableOf x0 x1 = some r) : Meets Try.prog 126 [VP.of (x0), VP.of (x1)] (VP.of (r)) := by
 unfold L_check_TableOf at h
 refine Meets.of Try.func126 rfl Try.ntmps126 rfl fun W A => ?_
 refine Qsr ?_
 refine Qbx fun p1 => ?_
 refine Qbx fun p2 => ?_
 refine Qa ?_
 refine Qnr ?_
 refine Q1 (r_fa fd33_4) ?_
 refine Qld 1 le_T_api_Schema_Tables ty28 ?_
 refine Sq.share (α := Int) 0 3 rfl rfl ?_
 refine Qv (r_clo1 (F := (fun a0 => L_check_TableOf_fn1 a0 x1)) (τs := [VP.ptr x1]) en154 ⟨look_t rfl, trivial⟩ (fun _ _ h => C_check_TableOf_fn1 h)) ?_
 obtain ⟨y1,hy1,h⟩:=Qbs h
 refine Qcl en153 (C_slices_IndexFunc_api_Table hy1) ?_
 refine Qa ?_
 refine Qnx ?_
 refine Wp.ret ?_
 obtain rfl:=some_in h
 exact Qe1
theorem C_own_Entry {x0 : T_api_Entry}  {r : T_api_Entry} (h : L_own_Entry x0 = some r) : Meets Try.prog 116 [VP.of (x0)] (VP.of (r)) := by
 unfold L_own_Entry at h
 refine Meets.of Try.func116 rfl Try.ntmps116 rfl fun W A => ?_
 refine Qsr ?_
 refine Qbx fun p1 => ?_
 refine Qal zr89 fun p2 => ?_
 refine Qns ?_
 obtain ⟨y1,hy1,h⟩:=Qbs h
 obtain ⟨y2,hy2,h⟩:=Qbs h
 refine Wp.draw mixed 7 [some 3, some 4, some 5, some 6, some 7, some 8, some 9] [[], [0], [1], [], [3], [4], []] [.val _, .val _, .val _, .val _, .val _, .val _, .val _] [false, false, false, false, false, false, false] (by kernel_rfl) rfl rfl rfl (fun ps1 => ⟨H1 (r_fa fd89_1), Hld 1 le_T_api_Entry_Matches ty87, Hcl en142 (C_slices_Clone_api_Match hy1), H1 (r_fa fd89_4), Hld 1 le_T_api_Entry_Args ty72, Hcl en143 (C_slices_Clone_api_Value hy2), H1 (r_fa fd89_1), trivial⟩) fun ps1 => ?_
 refine Qst 1 le_T_api_Entry_Matches ty87 ?_
 refine Q1 (r_fa fd89_4) ?_
 obtain ⟨z1,hz1,h⟩:=Qbs h
 refine Qsn 1 le_T_api_Entry_Args ty72 (hb := by exact hz1) ?_
 refine Qnr ?_
 refine Ql0 1 ty89 ?_
 refine Qs0 0 ty89 ?_
 refine Qnx ?_
 refine Wp.ret ?_
 obtain rfl:=some_in h
 exact To.end1 rfl (Qrc 0 ty89)
theorem C_check_FieldOf {x0 : T_api_Schema} {x1 : Int}  {r : Int} (h : L_check_FieldOf x0 x1 = some r) : Meets Try.prog 156 [VP.of (x0), VP.of (x1)] (VP.of (r)) := by
 unfold L_check_FieldOf at h
 refine Meets.of Try.func156 rfl Try.ntmps156 rfl fun W A => ?_
 refine Qsr ?_
 refine Qbx fun p1 => ?_
 refine Qbx fun p2 => ?_
 refine Qa ?_
 refine Qnr ?_
 refine Q1 (r_fa fd33_0) ?_
 refine Qld 1 le_T_api_Schema_Fields ty24 ?_
 refine Sq.share (α := Int) 0 3 rfl rfl ?_
 refine Qv (r_clo1 (F := (fun a0 => L_check_FieldOf_fn1 a0 x1)) (τs := [VP.ptr x1]) en183 ⟨look_t rfl, trivial⟩ (fun _ _ h => C_check_FieldOf_fn1 h)) ?_
 obtain ⟨y1,hy1,h⟩:=Qbs h
 refine Qcl en182 (C_slices_IndexFunc_api_Field hy1) ?_
 refine Qa ?_
 refine Qnx ?_
 refine Wp.ret ?_
 obtain rfl:=some_in h
 exact Qe1
theorem C_value_Ones {x0 : Int}  {r : T_api_Value} (h : L_value_Ones x0 = some r) : Meets Try.prog 184 [VP.of (x0)] (VP.of (r)) := by
 unfold L_value_Ones at h
 refine Meets.of Try.func184 rfl Try.ntmps184 rfl fun W A => ?_
 refine Qsr ?_
 refine Qal zr47 fun p1 => ?_
 refine Qnr ?_
 obtain ⟨z1,hz1,h⟩:=Qbs h
 refine Qn hz1 (r_build (b := { f_Hi := 18446744073709551615#64, f_Lo := 18446744073709551615#64 : T_api_Value }) rfl bu47 zr47 (.cons le_T_api_Value_Hi rfl (look_u64 18446744073709551615 rfl) rfl (.cons le_T_api_Value_Lo rfl (look_u64 18446744073709551615 rfl) rfl (.nil)))) ?_
 refine Qm ?_
 obtain ⟨y1,hy1,h⟩:=Qbs h
 refine Qcl en193 (C_value_within hy1) ?_
 refine Q2 r_sub ?_
 obtain ⟨y2,hy2,h⟩:=Qbs h
 refine Qcl en194 (C_value_Right hy2) ?_
 refine Qs0 0 ty47 ?_
 refine Qnx ?_
 refine Wp.ret ?_
 obtain rfl:=some_in h
 exact To.end1 rfl (Qrc 0 ty47)
end Go.Proofs.Ytodajdohokmjnaa

namespace Go.Proofs.Ytodajdohokmjnaa
open Go Gv
set_option linter.unusedVariables false
set_option linter.unusedSimpArgs false
set_option maxRecDepth 100000
set_option maxHeartbeats 2000000
theorem C_ref04_ids {x0 : T_api_Schema}  {r : (Vector (List Int) 6)} (h : L_ref04_ids x0 = some r) : Meets Try.prog 110 [VP.of (x0)] (VP.of (r)) := by
 unfold L_ref04_ids at h
 refine Meets.of Try.func110 rfl Try.ntmps110 rfl fun W A => ?_
 refine Qsr ?_
 refine Qbx fun p1 => ?_
 refine Qal zr219 fun p2 => ?_
 refine Qnr ?_
 refine Sq.allocX (z := (default : Vector (List Int) 6)) [0, 1, 2, 3, 4, 5] zh219_0_1_2_3_4_5 zr219 rfl fun p3 => ?_
 refine Sq.own (α := Int) 3 ?_
 refine Sq.own (α := Int) 3 ?_
 refine Sq.own (α := Int) 3 ?_
 refine Sq.own (α := Int) 3 ?_
 refine Sq.own (α := Int) 3 ?_
 refine Sq.own (α := Int) 3 ?_
 refine Qns ?_
 refine Qsr ?_
 refine Q1 (r_fa fd33_0) ?_
 refine Qld 8 le_T_api_Schema_Fields ty24 ?_
 refine Q1 (r_len Try.underlying24) ?_
 refine Qm ?_
 refine Qnx ?_
 refine Wp.block ?_
 obtain ⟨e1,hl,h⟩:=Qbs h
 refine Qlp (γ:=(Option Nat × Nat)) (δ:=(Option Nat × Nat)) hl [0, 1, 2, 3, 17, 18] (fun s1 g1 => [(19, VP.of (s1.1))]) (fun s1 g1 => [(5, ⟨g1.1, .row 3 (s1.2.1 : List Int) g1.2⟩), (6, ⟨some p3, .varX (s1.2.2 : Vector (List Int) 6) [(0, slv g1.1 s1.2.1.length g1.2), (1, slv none ([] : List Int).length 0), (2, slv none ([] : List Int).length 0), (3, slv none ([] : List Int).length 0), (4, slv none ([] : List Int).length 0), (5, slv none ([] : List Int).length 0)]⟩)]) (fun q1 => Exit.exit 0) (fun q1 g1 => [(19, VP.of (q1.1)), (20, VP.of (q1.2.1))]) (fun q1 g1 => [(5, ⟨g1.1, .row 3 (q1.2.2.1 : List Int) g1.2⟩), (6, ⟨some p3, .varX (q1.2.2.2 : Vector (List Int) 6) [(0, slv g1.1 q1.2.2.1.length g1.2), (1, slv none ([] : List Int).length 0), (2, slv none ([] : List Int).length 0), (3, slv none ([] : List Int).length 0), (4, slv none ([] : List Int).length 0), (5, slv none ([] : List Int).length 0)]⟩)]) (none, 0) (fun s1 r h g1 => ?_) fun g1 => ?_
 ·clear hl
  refine Qsr ?_
  refine Q2 r_lss ?_
  refine Qns ?_
  refine Qcd h (fun h=>?_) fun h=>?_
  ·refine Qkn ?_
   refine Wp.seq ?_
   refine Wp.block ?_
   refine Qsr ?_
   obtain ⟨k1,hk1,h⟩:=Qbs h
   refine Qix hk1 Try.underlying24 ty123 ?_
   refine Q1 (r_loadp ty123) ?_
   refine Qal zr123 fun p4 => ?_
   refine Qs0 0 ty123 ?_
   refine Qnx ?_
   refine Wp.reg ?_
   refine Qv (r_ia (k := 0) ar219 (look_t rfl) (look_int 0) ⟨by decide, rfl⟩) ?_
   refine Qv (r_loadH (i := 7) (q := 0) (β := Vector (List Int) 6) (γ := Int) ty64 (look_t rfl) rfl rfl) ?_
   refine Q1 (r_fa fd123_0) ?_
   refine Qld 0 le_T_api_Field_ID ty3 ?_
   refine Qbl [(lget x0.f_Fields k1).f_ID] Try.underlying64 ty3 zr3 ?_
   obtain ⟨y1,hy1,h⟩:=Qbs h
   refine Qap 6 Try.underlying64 ty3 zr3 hy1 fun key1 cap1 => ?_
   refine Qv (r_ia (k := 0) ar219 (look_t rfl) (look_int 0) ⟨by decide, rfl⟩) ?_
   refine Sq.storeH (i := 7) (γ := Int) (b' := (vset s1.2.2 0 [] : Vector (List Int) 6)) (os' := [(0, slv key1 y1.length cap1), (1, slv none ([] : List Int).length 0), (2, slv none ([] : List Int).length 0), (3, slv none ([] : List Int).length 0), (4, slv none ([] : List Int).length 0), (5, slv none ([] : List Int).length 0)]) ((Lens.id (Vector (List Int) 6)).comp (Lens.idx (α := List Int) 6 0 (by decide))) ty64 (look_t rfl) (look_t rfl) slv_one rfl rfl rfl rfl ?_
   refine Sq.nil ?_
   refine To.bnorm ?_
   refine To.next ?_
   refine Wp.reg ?_
   refine Q2 r_add ?_
   refine Qm ?_
   refine Sq.nil ?_
   obtain rfl:=some_in h
   exact Qrd (key1, cap1) 1
  ·refine Wp.exit ?_
   refine To.exit ?_
   obtain rfl:=some_in h
   exact Qlv (g1.1, g1.2) 0
 ·clear hl
  refine To.bexit ?_
  refine To.next ?_
  refine Wp.seq ?_
  refine Qsr ?_
  refine Q1 (r_fa fd33_1) ?_
  refine Qld 8 le_T_api_Schema_Headers ty25 ?_
  refine Q1 (r_len Try.underlying25) ?_
  refine Qm ?_
  refine Qnx ?_
  refine Wp.block ?_
  obtain ⟨e2,hl,h⟩:=Qbs h
  refine Qlp (γ:=(Option Nat × Nat)) (δ:=(Option Nat × Nat)) hl [0, 1, 2, 3, 17, 18, 19, 20, 32, 33] (fun s2 g2 => [(34, VP.of (s2.1))]) (fun s2 g2 => [(4, ⟨g2.1, .row 3 (s2.2.1 : List Int) g2.2⟩), (6, ⟨some p3, .varX (s2.2.2 : Vector (List Int) 6) [(0, slv g1.1 e1.2.2.1.length g1.2), (1, slv g2.1 s2.2.1.length g2.2), (2, slv none ([] : List Int).length 0), (3, slv none ([] : List Int).length 0), (4, slv none ([] : List Int).length 0), (5, slv none ([] : List Int).length 0)]⟩)]) (fun q2 => Exit.exit 2) (fun q2 g2 => [(34, VP.of (q2.1)), (35, VP.of (q2.2.1))]) (fun q2 g2 => [(4, ⟨g2.1, .row 3 (q2.2.2.1 : List Int) g2.2⟩), (6, ⟨some p3, .varX (q2.2.2.2 : Vector (List Int) 6) [(0, slv g1.1 e1.2.2.1.length g1.2), (1, slv g2.1 q2.2.2.1.length g2.2), (2, slv none ([] : List Int).length 0), (3, slv none ([] : List Int).length 0), (4, slv none ([] : List Int).length 0), (5, slv none ([] : List Int).length 0)]⟩)]) (none, 0) (fun s2 r h g2 => ?_) fun g2 => ?_
  ·clear hl
   refine Qsr ?_
   refine Q2 r_lss ?_
   refine Qns ?_
   refine Qcd h (fun h=>?_) fun h=>?_
   ·refine Qkn ?_
    refine Wp.seq ?_
    refine Wp.block ?_
    refine Qsr ?_
    obtain ⟨k2,hk2,h⟩:=Qbs h
    refine Qix hk2 Try.underlying25 ty125 ?_
    refine Q1 (r_loadp ty125) ?_
    refine Qal zr125 fun p5 => ?_
    refine Qs0 0 ty125 ?_
    refine Qnx ?_
    refine Wp.reg ?_
    refine Qv (r_ia (k := 1) ar219 (look_t rfl) (look_int 1) ⟨by decide, rfl⟩) ?_
    refine Qv (r_loadH (i := 7) (q := 1) (β := Vector (List Int) 6) (γ := Int) ty64 (look_t rfl) rfl rfl) ?_
    refine Q1 (r_fa fd125_0) ?_
    refine Qld 0 le_T_api_Header_ID ty3 ?_
    refine Qbl [(lget x0.f_Headers k2).f_ID] Try.underlying64 ty3 zr3 ?_
    obtain ⟨y2,hy2,h⟩:=Qbs h
    refine Qap 5 Try.underlying64 ty3 zr3 hy2 fun key2 cap2 => ?_
    refine Qv (r_ia (k := 1) ar219 (look_t rfl) (look_int 1) ⟨by decide, rfl⟩) ?_
    refine Sq.storeH (i := 7) (γ := Int) (b' := (vset s2.2.2 1 [] : Vector (List Int) 6)) (os' := [(0, slv g1.1 e1.2.2.1.length g1.2), (1, slv key2 y2.length cap2), (2, slv none ([] : List Int).length 0), (3, slv none ([] : List Int).length 0), (4, slv none ([] : List Int).length 0), (5, slv none ([] : List Int).length 0)]) ((Lens.id (Vector (List Int) 6)).comp (Lens.idx (α := List Int) 6 1 (by decide))) ty64 (look_t rfl) (look_t rfl) slv_one rfl rfl rfl rfl ?_
    refine Sq.nil ?_
    refine To.bnorm ?_
    refine To.next ?_
    refine Wp.reg ?_
    refine Q2 r_add ?_
    refine Qm ?_
    refine Sq.nil ?_
    obtain rfl:=some_in h
    exact Qrd (key2, cap2) 1
   ·refine Wp.exit ?_
    refine To.exit ?_
    obtain rfl:=some_in h
    exact Qlv (g2.1, g2.2) 0
  ·clear hl
   refine To.bexit ?_
   refine To.next ?_
   refine Wp.seq ?_
   refine Qsr ?_
   refine Q1 (r_fa fd33_2) ?_
   refine Qld 8 le_T_api_Schema_States ty26 ?_
   refine Q1 (r_len Try.underlying26) ?_
   refine Qm ?_
   refine Qnx ?_
   refine Wp.block ?_
   obtain ⟨e3,hl,h⟩:=Qbs h
   refine Qlp (γ:=(Option Nat × Nat)) (δ:=(Option Nat × Nat)) hl [0, 1, 2, 3, 17, 18, 19, 20, 32, 33, 34, 35, 47, 48] (fun s3 g3 => [(49, VP.of (s3.1))]) (fun s3 g3 => [(3, ⟨g3.1, .row 3 (s3.2.1 : List Int) g3.2⟩), (6, ⟨some p3, .varX (s3.2.2 : Vector (List Int) 6) [(0, slv g1.1 e1.2.2.1.length g1.2), (1, slv g2.1 e2.2.2.1.length g2.2), (2, slv g3.1 s3.2.1.length g3.2), (3, slv none ([] : List Int).length 0), (4, slv none ([] : List Int).length 0), (5, slv none ([] : List Int).length 0)]⟩)]) (fun q3 => Exit.exit 4) (fun q3 g3 => [(49, VP.of (q3.1)), (50, VP.of (q3.2.1))]) (fun q3 g3 => [(3, ⟨g3.1, .row 3 (q3.2.2.1 : List Int) g3.2⟩), (6, ⟨some p3, .varX (q3.2.2.2 : Vector (List Int) 6) [(0, slv g1.1 e1.2.2.1.length g1.2), (1, slv g2.1 e2.2.2.1.length g2.2), (2, slv g3.1 q3.2.2.1.length g3.2), (3, slv none ([] : List Int).length 0), (4, slv none ([] : List Int).length 0), (5, slv none ([] : List Int).length 0)]⟩)]) (none, 0) (fun s3 r h g3 => ?_) fun g3 => ?_
   ·clear hl
    refine Qsr ?_
    refine Q2 r_lss ?_
    refine Qns ?_
    refine Qcd h (fun h=>?_) fun h=>?_
    ·refine Qkn ?_
     refine Wp.seq ?_
     refine Wp.block ?_
     refine Qsr ?_
     obtain ⟨k3,hk3,h⟩:=Qbs h
     refine Qix hk3 Try.underlying26 ty196 ?_
     refine Q1 (r_loadp ty196) ?_
     refine Qal zr196 fun p6 => ?_
     refine Qs0 0 ty196 ?_
     refine Qnx ?_
     refine Wp.reg ?_
     refine Qv (r_ia (k := 2) ar219 (look_t rfl) (look_int 2) ⟨by decide, rfl⟩) ?_
     refine Qv (r_loadH (i := 7) (q := 2) (β := Vector (List Int) 6) (γ := Int) ty64 (look_t rfl) rfl rfl) ?_
     refine Q1 (r_fa fd196_0) ?_
     refine Qld 0 le_T_api_State_ID ty3 ?_
     refine Qbl [(lget x0.f_States k3).f_ID] Try.underlying64 ty3 zr3 ?_
     obtain ⟨y3,hy3,h⟩:=Qbs h
     refine Qap 4 Try.underlying64 ty3 zr3 hy3 fun key3 cap3 => ?_
     refine Qv (r_ia (k := 2) ar219 (look_t rfl) (look_int 2) ⟨by decide, rfl⟩) ?_
     refine Sq.storeH (i := 7) (γ := Int) (b' := (vset s3.2.2 2 [] : Vector (List Int) 6)) (os' := [(0, slv g1.1 e1.2.2.1.length g1.2), (1, slv g2.1 e2.2.2.1.length g2.2), (2, slv key3 y3.length cap3), (3, slv none ([] : List Int).length 0), (4, slv none ([] : List Int).length 0), (5, slv none ([] : List Int).length 0)]) ((Lens.id (Vector (List Int) 6)).comp (Lens.idx (α := List Int) 6 2 (by decide))) ty64 (look_t rfl) (look_t rfl) slv_one rfl rfl rfl rfl ?_
     refine Sq.nil ?_
     refine To.bnorm ?_
     refine To.next ?_
     refine Wp.reg ?_
     refine Q2 r_add ?_
     refine Qm ?_
     refine Sq.nil ?_
     obtain rfl:=some_in h
     exact Qrd (key3, cap3) 1
    ·refine Wp.exit ?_
     refine To.exit ?_
     obtain rfl:=some_in h
     exact Qlv (g3.1, g3.2) 0
   ·clear hl
    refine To.bexit ?_
    refine To.next ?_
    refine Wp.seq ?_
    refine Qsr ?_
    refine Q1 (r_fa fd33_3) ?_
    refine Qld 8 le_T_api_Schema_Actions ty27 ?_
    refine Q1 (r_len Try.underlying27) ?_
    refine Qm ?_
    refine Qnx ?_
    refine Wp.block ?_
    obtain ⟨e4,hl,h⟩:=Qbs h
    refine Qlp (γ:=(Option Nat × Nat)) (δ:=(Option Nat × Nat)) hl [0, 1, 2, 3, 17, 18, 19, 20, 32, 33, 34, 35, 47, 48, 49, 50, 62, 63] (fun s4 g4 => [(64, VP.of (s4.1))]) (fun s4 g4 => [(2, ⟨g4.1, .row 3 (s4.2.1 : List Int) g4.2⟩), (6, ⟨some p3, .varX (s4.2.2 : Vector (List Int) 6) [(0, slv g1.1 e1.2.2.1.length g1.2), (1, slv g2.1 e2.2.2.1.length g2.2), (2, slv g3.1 e3.2.2.1.length g3.2), (3, slv g4.1 s4.2.1.length g4.2), (4, slv none ([] : List Int).length 0), (5, slv none ([] : List Int).length 0)]⟩)]) (fun q4 => Exit.exit 6) (fun q4 g4 => [(64, VP.of (q4.1)), (65, VP.of (q4.2.1))]) (fun q4 g4 => [(2, ⟨g4.1, .row 3 (q4.2.2.1 : List Int) g4.2⟩), (6, ⟨some p3, .varX (q4.2.2.2 : Vector (List Int) 6) [(0, slv g1.1 e1.2.2.1.length g1.2), (1, slv g2.1 e2.2.2.1.length g2.2), (2, slv g3.1 e3.2.2.1.length g3.2), (3, slv g4.1 q4.2.2.1.length g4.2), (4, slv none ([] : List Int).length 0), (5, slv none ([] : List Int).length 0)]⟩)]) (none, 0) (fun s4 r h g4 => ?_) fun g4 => ?_
    ·clear hl
     refine Qsr ?_
     refine Q2 r_lss ?_
     refine Qns ?_
     refine Qcd h (fun h=>?_) fun h=>?_
     ·refine Qkn ?_
      refine Wp.seq ?_
      refine Wp.block ?_
      refine Qsr ?_
      obtain ⟨k4,hk4,h⟩:=Qbs h
      refine Qix hk4 Try.underlying27 ty168 ?_
      refine Q1 (r_loadp ty168) ?_
      refine Qal zr168 fun p7 => ?_
      refine Qs0 0 ty168 ?_
      refine Qnx ?_
      refine Wp.reg ?_
      refine Qv (r_ia (k := 3) ar219 (look_t rfl) (look_int 3) ⟨by decide, rfl⟩) ?_
      refine Qv (r_loadH (i := 7) (q := 3) (β := Vector (List Int) 6) (γ := Int) ty64 (look_t rfl) rfl rfl) ?_
      refine Q1 (r_fa fd168_0) ?_
      refine Qld 0 le_T_api_Action_ID ty3 ?_
      refine Qbl [(lget x0.f_Actions k4).f_ID] Try.underlying64 ty3 zr3 ?_
      obtain ⟨y4,hy4,h⟩:=Qbs h
      refine Qap 3 Try.underlying64 ty3 zr3 hy4 fun key4 cap4 => ?_
      refine Qv (r_ia (k := 3) ar219 (look_t rfl) (look_int 3) ⟨by decide, rfl⟩) ?_
      refine Sq.storeH (i := 7) (γ := Int) (b' := (vset s4.2.2 3 [] : Vector (List Int) 6)) (os' := [(0, slv g1.1 e1.2.2.1.length g1.2), (1, slv g2.1 e2.2.2.1.length g2.2), (2, slv g3.1 e3.2.2.1.length g3.2), (3, slv key4 y4.length cap4), (4, slv none ([] : List Int).length 0), (5, slv none ([] : List Int).length 0)]) ((Lens.id (Vector (List Int) 6)).comp (Lens.idx (α := List Int) 6 3 (by decide))) ty64 (look_t rfl) (look_t rfl) slv_one rfl rfl rfl rfl ?_
      refine Sq.nil ?_
      refine To.bnorm ?_
      refine To.next ?_
      refine Wp.reg ?_
      refine Q2 r_add ?_
      refine Qm ?_
      refine Sq.nil ?_
      obtain rfl:=some_in h
      exact Qrd (key4, cap4) 1
     ·refine Wp.exit ?_
      refine To.exit ?_
      obtain rfl:=some_in h
      exact Qlv (g4.1, g4.2) 0
    ·clear hl
     refine To.bexit ?_
     refine To.next ?_
     refine Wp.seq ?_
     refine Qsr ?_
     refine Q1 (r_fa fd33_4) ?_
     refine Qld 8 le_T_api_Schema_Tables ty28 ?_
     refine Q1 (r_len Try.underlying28) ?_
     refine Qm ?_
     refine Qnx ?_
     refine Wp.block ?_
     obtain ⟨e5,hl,h⟩:=Qbs h
     refine Qlp (γ:=(Option Nat × Nat)) (δ:=(Option Nat × Nat)) hl [0, 1, 2, 3, 17, 18, 19, 20, 32, 33, 34, 35, 47, 48, 49, 50, 62, 63, 64, 65, 77, 78] (fun s5 g5 => [(79, VP.of (s5.1))]) (fun s5 g5 => [(1, ⟨g5.1, .row 3 (s5.2.1 : List Int) g5.2⟩), (6, ⟨some p3, .varX (s5.2.2 : Vector (List Int) 6) [(0, slv g1.1 e1.2.2.1.length g1.2), (1, slv g2.1 e2.2.2.1.length g2.2), (2, slv g3.1 e3.2.2.1.length g3.2), (3, slv g4.1 e4.2.2.1.length g4.2), (4, slv g5.1 s5.2.1.length g5.2), (5, slv none ([] : List Int).length 0)]⟩)]) (fun q5 => Exit.exit 8) (fun q5 g5 => [(79, VP.of (q5.1)), (80, VP.of (q5.2.1))]) (fun q5 g5 => [(1, ⟨g5.1, .row 3 (q5.2.2.1 : List Int) g5.2⟩), (6, ⟨some p3, .varX (q5.2.2.2 : Vector (List Int) 6) [(0, slv g1.1 e1.2.2.1.length g1.2), (1, slv g2.1 e2.2.2.1.length g2.2), (2, slv g3.1 e3.2.2.1.length g3.2), (3, slv g4.1 e4.2.2.1.length g4.2), (4, slv g5.1 q5.2.2.1.length g5.2), (5, slv none ([] : List Int).length 0)]⟩)]) (none, 0) (fun s5 r h g5 => ?_) fun g5 => ?_
     ·clear hl
      refine Qsr ?_
      refine Q2 r_lss ?_
      refine Qns ?_
      refine Qcd h (fun h=>?_) fun h=>?_
      ·refine Qkn ?_
       refine Wp.seq ?_
       refine Wp.block ?_
       refine Qsr ?_
       obtain ⟨k5,hk5,h⟩:=Qbs h
       refine Qix hk5 Try.underlying28 ty136 ?_
       refine Q1 (r_loadp ty136) ?_
       refine Qal zr136 fun p8 => ?_
       refine Qs0 0 ty136 ?_
       refine Qnx ?_
       refine Wp.reg ?_
       refine Qv (r_ia (k := 4) ar219 (look_t rfl) (look_int 4) ⟨by decide, rfl⟩) ?_
       refine Qv (r_loadH (i := 7) (q := 4) (β := Vector (List Int) 6) (γ := Int) ty64 (look_t rfl) rfl rfl) ?_
       refine Q1 (r_fa fd136_0) ?_
       refine Qld 0 le_T_api_Table_ID ty3 ?_
       refine Qbl [(lget x0.f_Tables k5).f_ID] Try.underlying64 ty3 zr3 ?_
       obtain ⟨y5,hy5,h⟩:=Qbs h
       refine Qap 2 Try.underlying64 ty3 zr3 hy5 fun key5 cap5 => ?_
       refine Qv (r_ia (k := 4) ar219 (look_t rfl) (look_int 4) ⟨by decide, rfl⟩) ?_
       refine Sq.storeH (i := 7) (γ := Int) (b' := (vset s5.2.2 4 [] : Vector (List Int) 6)) (os' := [(0, slv g1.1 e1.2.2.1.length g1.2), (1, slv g2.1 e2.2.2.1.length g2.2), (2, slv g3.1 e3.2.2.1.length g3.2), (3, slv g4.1 e4.2.2.1.length g4.2), (4, slv key5 y5.length cap5), (5, slv none ([] : List Int).length 0)]) ((Lens.id (Vector (List Int) 6)).comp (Lens.idx (α := List Int) 6 4 (by decide))) ty64 (look_t rfl) (look_t rfl) slv_one rfl rfl rfl rfl ?_
       refine Sq.nil ?_
       refine To.bnorm ?_
       refine To.next ?_
       refine Wp.reg ?_
       refine Q2 r_add ?_
       refine Qm ?_
       refine Sq.nil ?_
       obtain rfl:=some_in h
       exact Qrd (key5, cap5) 1
      ·refine Wp.exit ?_
       refine To.exit ?_
       obtain rfl:=some_in h
       exact Qlv (g5.1, g5.2) 0
     ·clear hl
      refine To.bexit ?_
      refine To.next ?_
      refine Wp.seq ?_
      refine Qsr ?_
      refine Q1 (r_fa fd33_6) ?_
      refine Qld 8 le_T_api_Schema_Roles ty30 ?_
      refine Q1 (r_len Try.underlying30) ?_
      refine Qm ?_
      refine Qnx ?_
      refine Wp.block ?_
      obtain ⟨e6,hl,h⟩:=Qbs h
      refine Qlp (γ:=(Option Nat × Nat)) (δ:=(Option Nat × Nat)) hl [0, 1, 2, 3, 17, 18, 19, 20, 32, 33, 34, 35, 47, 48, 49, 50, 62, 63, 64, 65, 77, 78, 79, 80, 92, 93] (fun s6 g6 => [(94, VP.of (s6.1))]) (fun s6 g6 => [(0, ⟨g6.1, .row 3 (s6.2.1 : List Int) g6.2⟩), (6, ⟨some p3, .varX (s6.2.2 : Vector (List Int) 6) [(0, slv g1.1 e1.2.2.1.length g1.2), (1, slv g2.1 e2.2.2.1.length g2.2), (2, slv g3.1 e3.2.2.1.length g3.2), (3, slv g4.1 e4.2.2.1.length g4.2), (4, slv g5.1 e5.2.2.1.length g5.2), (5, slv g6.1 s6.2.1.length g6.2)]⟩)]) (fun q6 => Exit.exit 10) (fun q6 g6 => [(94, VP.of (q6.1)), (95, VP.of (q6.2.1))]) (fun q6 g6 => [(0, ⟨g6.1, .row 3 (q6.2.2.1 : List Int) g6.2⟩), (6, ⟨some p3, .varX (q6.2.2.2 : Vector (List Int) 6) [(0, slv g1.1 e1.2.2.1.length g1.2), (1, slv g2.1 e2.2.2.1.length g2.2), (2, slv g3.1 e3.2.2.1.length g3.2), (3, slv g4.1 e4.2.2.1.length g4.2), (4, slv g5.1 e5.2.2.1.length g5.2), (5, slv g6.1 q6.2.2.1.length g6.2)]⟩)]) (none, 0) (fun s6 r h g6 => ?_) fun g6 => ?_
      ·clear hl
       refine Qsr ?_
       refine Q2 r_lss ?_
       refine Qns ?_
       refine Qcd h (fun h=>?_) fun h=>?_
       ·refine Qkn ?_
        refine Wp.seq ?_
        refine Wp.block ?_
        refine Qsr ?_
        obtain ⟨k6,hk6,h⟩:=Qbs h
        refine Qix hk6 Try.underlying30 ty207 ?_
        refine Q1 (r_loadp ty207) ?_
        refine Qal zr207 fun p9 => ?_
        refine Qs0 0 ty207 ?_
        refine Qnx ?_
        refine Wp.reg ?_
        refine Qv (r_ia (k := 5) ar219 (look_t rfl) (look_int 5) ⟨by decide, rfl⟩) ?_
        refine Qv (r_loadH (i := 7) (q := 5) (β := Vector (List Int) 6) (γ := Int) ty64 (look_t rfl) rfl rfl) ?_
        refine Q1 (r_fa fd207_0) ?_
        refine Qld 0 le_T_api_Role_ID ty3 ?_
        refine Qbl [(lget x0.f_Roles k6).f_ID] Try.underlying64 ty3 zr3 ?_
        obtain ⟨y6,hy6,h⟩:=Qbs h
        refine Qap 1 Try.underlying64 ty3 zr3 hy6 fun key6 cap6 => ?_
        refine Qv (r_ia (k := 5) ar219 (look_t rfl) (look_int 5) ⟨by decide, rfl⟩) ?_
        refine Sq.storeH (i := 7) (γ := Int) (b' := (vset s6.2.2 5 [] : Vector (List Int) 6)) (os' := [(0, slv g1.1 e1.2.2.1.length g1.2), (1, slv g2.1 e2.2.2.1.length g2.2), (2, slv g3.1 e3.2.2.1.length g3.2), (3, slv g4.1 e4.2.2.1.length g4.2), (4, slv g5.1 e5.2.2.1.length g5.2), (5, slv key6 y6.length cap6)]) ((Lens.id (Vector (List Int) 6)).comp (Lens.idx (α := List Int) 6 5 (by decide))) ty64 (look_t rfl) (look_t rfl) slv_one rfl rfl rfl rfl ?_
        refine Sq.nil ?_
        refine To.bnorm ?_
        refine To.next ?_
        refine Wp.reg ?_
        refine Q2 r_add ?_
        refine Qm ?_
        refine Sq.nil ?_
        obtain rfl:=some_in h
        exact Qrd (key6, cap6) 1
       ·refine Wp.exit ?_
        refine To.exit ?_
        obtain rfl:=some_in h
        exact Qlv (g6.1, g6.2) 0
      ·clear hl
       refine To.bexit ?_
       refine To.next ?_
       refine Qsr ?_
       refine Sq.thaw (β := Vector (List Int) 6) (γ := Int) (b' := (vset e6.2.2.2 0 e1.2.2.1 : Vector (List Int) 6)) ((Lens.id (Vector (List Int) 6)).comp (Lens.idx (α := List Int) 6 0 (by decide))) 6 5 0 rfl rfl rfl rfl rfl rfl ?_
       refine Sq.thaw (β := Vector (List Int) 6) (γ := Int) (b' := (vset (vset e6.2.2.2 0 e1.2.2.1) 1 e2.2.2.1 : Vector (List Int) 6)) ((Lens.id (Vector (List Int) 6)).comp (Lens.idx (α := List Int) 6 1 (by decide))) 6 4 0 rfl rfl rfl rfl rfl rfl ?_
       refine Sq.thaw (β := Vector (List Int) 6) (γ := Int) (b' := (vset (vset (vset e6.2.2.2 0 e1.2.2.1) 1 e2.2.2.1) 2 e3.2.2.1 : Vector (List Int) 6)) ((Lens.id (Vector (List Int) 6)).comp (Lens.idx (α := List Int) 6 2 (by decide))) 6 3 0 rfl rfl rfl rfl rfl rfl ?_
       refine Sq.thaw (β := Vector (List Int) 6) (γ := Int) (b' := (vset (vset (vset (vset e6.2.2.2 0 e1.2.2.1) 1 e2.2.2.1) 2 e3.2.2.1) 3 e4.2.2.1 : Vector (List Int) 6)) ((Lens.id (Vector (List Int) 6)).comp (Lens.idx (α := List Int) 6 3 (by decide))) 6 2 0 rfl rfl rfl rfl rfl rfl ?_
       refine Sq.thaw (β := Vector (List Int) 6) (γ := Int) (b' := (vset (vset (vset (vset (vset e6.2.2.2 0 e1.2.2.1) 1 e2.2.2.1) 2 e3.2.2.1) 3 e4.2.2.1) 4 e5.2.2.1 : Vector (List Int) 6)) ((Lens.id (Vector (List Int) 6)).comp (Lens.idx (α := List Int) 6 4 (by decide))) 6 1 0 rfl rfl rfl rfl rfl rfl ?_
       refine Sq.thaw (β := Vector (List Int) 6) (γ := Int) (b' := (vset (vset (vset (vset (vset (vset e6.2.2.2 0 e1.2.2.1) 1 e2.2.2.1) 2 e3.2.2.1) 3 e4.2.2.1) 4 e5.2.2.1) 5 e6.2.2.1 : Vector (List Int) 6)) ((Lens.id (Vector (List Int) 6)).comp (Lens.idx (α := List Int) 6 5 (by decide))) 6 0 0 rfl rfl rfl rfl rfl rfl ?_
       refine Sq.fromX 6 rfl ?_
       obtain ⟨z1,hz1,h⟩:=Qbs h
       refine Qn hz1 (r_load (i := 6) (Lens.id (Vector (List Int) 6)) (r := (vset (vset (vset (vset (vset (vset e6.2.2.2 0 e1.2.2.1) 1 e2.2.2.1) 2 e3.2.2.1) 3 e4.2.2.1) 4 e5.2.2.1) 5 e6.2.2.1)) ty219 (look_t rfl) rfl rfl rfl) ?_
       refine Qs0 7 ty219 ?_
       refine Qnx ?_
       refine Wp.ret ?_
       obtain rfl:=some_in h
       exact To.end1 rfl (Qrc 7 ty219)
theorem C_ref04_index {x0 : List Int} {x1 : Int}  {r : Int} (h : L_ref04_index x0 x1 = some r) : Meets Try.prog 109 [VP.of (x0), VP.of (x1)] (VP.of (r)) := by
 unfold L_ref04_index at h
 refine Meets.of Try.func109 rfl Try.ntmps109 rfl fun W A => ?_
 refine Qsr ?_
 refine Qa ?_
 refine Qns ?_
 refine Qsr ?_
 refine Qm ?_
 refine Q1 (r_len Try.underlying64) ?_
 refine Qm ?_
 refine Qnx ?_
 refine Wp.block ?_
 obtain ⟨e1,hl,h⟩:=Qbs h
 refine Qlp (γ:=Unit) (δ:=Unit) hl [0, 1, 7, 8] (fun s1 g1 => [(4, VP.of (0 : Int)), (9, VP.of (s1))]) (fun s1 g1 => []) (fun q1 => Sum.elim (fun q1 => Exit.exit 0) (fun q1 => Exit.ret) q1) (fun q1 g1 => Sum.elim (fun q1 => [(4, VP.of (0 : Int)), (9, VP.of (q1.1)), (10, VP.of (q1.2))]) (fun q1 => [(4, VP.of (q1.1)), (5, VP.of (q1.2.1)), (6, VP.of (q1.2.2.1)), (9, VP.of (q1.2.2.2.1)), (10, VP.of (q1.2.2.2.2.1)), (16, VP.of (q1.2.2.2.2.2))]) q1) (fun q1 g1 => Sum.elim (fun q1 => []) (fun q1 => []) q1) () (fun s1 r h g1 => ?_) fun g1 => ?_
 ·clear hl
  refine Qsr ?_
  refine Q2 r_lss ?_
  refine Qns ?_
  refine Qcd h (fun h=>?_) fun h=>?_
  ·refine Qkn ?_
   refine Wp.seq ?_
   refine Wp.block ?_
   refine Qsr ?_
   refine Qm ?_
   obtain ⟨k1,hk1,h⟩:=Qbs h
   refine Qix hk1 Try.underlying64 ty3 ?_
   refine Q1 (r_loadp ty3) ?_
   refine Qa ?_
   refine Qa ?_
   refine Qnr ?_
   refine Qm ?_
   refine Qm ?_
   refine Q2 r_eql ?_
   refine Qnx ?_
   refine Qcd h (fun h=>?_) fun h=>?_
   ·refine Qsr ?_
    refine Qm ?_
    refine Qa ?_
    refine Qnx ?_
    refine Wp.ret ?_
    refine To.bret ?_
    refine To.ret ?_
    obtain rfl:=some_in h
    exact Qlv () 0
   ·refine Wp.skip ?_
    refine To.bnorm ?_
    refine To.next ?_
    refine Wp.reg ?_
    refine Q2 r_add ?_
    refine Qm ?_
    refine Sq.nil ?_
    obtain rfl:=some_in h
    exact Qrd () 0
  ·refine Wp.exit ?_
   refine To.exit ?_
   obtain rfl:=some_in h
   exact Qlv () 0
 ·clear hl
  rcases e1 with e1 | e1
  ·simp only [Sum.elim_inl] at h
   refine To.bexit ?_
   refine To.next ?_
   refine Qsr ?_
   refine Qa ?_
   refine Qnx ?_
   refine Wp.ret ?_
   obtain rfl:=some_in h
   exact Qe1
  ·simp only [Sum.elim_inr] at h
   refine To.bret ?_
   refine To.ret ?_
   obtain rfl:=some_in h
   exact Qe1
end Go.Proofs.Ytodajdohokmjnaa

namespace Go.Proofs.Ytodajdohokmjnaa
open Go Gv
set_option linter.unusedVariables false
set_option linter.unusedSimpArgs false
set_option maxRecDepth 100000
set_option maxHeartbeats 2000000
theorem C_ref04_TableOf {x0 : T_api_Schema} {x1 : Int}  {r : Int} (h : L_ref04_TableOf x0 x1 = some r) : Meets Try.prog 86 [VP.of (x0), VP.of (x1)] (VP.of (r)) := by
 unfold L_ref04_TableOf at h
 refine Meets.of Try.func86 rfl Try.ntmps86 rfl fun W A => ?_
 refine Qsr ?_
 refine Qbx fun p1 => ?_
 refine Qa ?_
 refine Qnr ?_
 refine Ql0 0 ty33 ?_
 obtain ⟨y1,hy1,h⟩:=Qbs h
 refine Qcl en110 (C_ref04_ids hy1) ?_
 refine Qv (r_index (k := 4) Try.underlying219 ty64 (look_t rfl) (look_int 4) ⟨by decide, rfl⟩) ?_
 refine Qm ?_
 obtain ⟨y2,hy2,h⟩:=Qbs h
 refine Qcl en109 (C_ref04_index hy2) ?_
 refine Qa ?_
 refine Qnx ?_
 refine Wp.ret ?_
 obtain rfl:=some_in h
 exact Qe1
theorem C_ref04_FieldOf {x0 : T_api_Schema} {x1 : Int}  {r : Int} (h : L_ref04_FieldOf x0 x1 = some r) : Meets Try.prog 149 [VP.of (x0), VP.of (x1)] (VP.of (r)) := by
 unfold L_ref04_FieldOf at h
 refine Meets.of Try.func149 rfl Try.ntmps149 rfl fun W A => ?_
 refine Qsr ?_
 refine Qbx fun p1 => ?_
 refine Qa ?_
 refine Qnr ?_
 refine Ql0 0 ty33 ?_
 obtain ⟨y1,hy1,h⟩:=Qbs h
 refine Qcl en110 (C_ref04_ids hy1) ?_
 refine Qv (r_index (k := 0) Try.underlying219 ty64 (look_t rfl) (look_int 0) ⟨by decide, rfl⟩) ?_
 refine Qm ?_
 obtain ⟨y2,hy2,h⟩:=Qbs h
 refine Qcl en109 (C_ref04_index hy2) ?_
 refine Qa ?_
 refine Qnx ?_
 refine Wp.ret ?_
 obtain rfl:=some_in h
 exact Qe1
theorem C_ref01_And {x0 : T_api_Value} {x1 : T_api_Value}  {r : T_api_Value} (h : L_ref01_And x0 x1 = some r) : Meets Try.prog 122 [VP.of (x0), VP.of (x1)] (VP.of (r)) := by
 unfold L_ref01_And at h
 refine Meets.of Try.func122 rfl Try.ntmps122 rfl fun W A => ?_
 refine Qsr ?_
 refine Qbx fun p1 => ?_
 refine Qbx fun p2 => ?_
 refine Qal zr47 fun p3 => ?_
 refine Qns ?_
 obtain ⟨y1,hy1,h⟩:=Qbs h
 obtain ⟨y2,hy2,h⟩:=Qbs h
 refine Wp.draw mixed 6 [some 8, some 9, some 10, some 11, some 5, some 6] [[], [0], [], [2], [], []] [.val _, .val _, .val _, .val _, .new (.var (default : Vector Bool 128)), .new (.var (default : Vector Bool 128))] [false, false, false, false, false, false] (by kernel_rfl) rfl rfl rfl (fun ps1 => ⟨Hl0 2 ty47, Hcl en111 (C_ref01_Read hy1), Hl0 1 ty47, Hcl en111 (C_ref01_Read hy2), ao_alloc zr222, ao_alloc zr222, trivial⟩) fun ps1 => ?_
 refine Qs0 0 ty222 ?_
 refine Qs0 1 ty222 ?_
 refine Qns ?_
 refine Qsr ?_
 refine Qm ?_
 refine Qnx ?_
 refine Wp.block ?_
 obtain ⟨e1,hl,h⟩:=Qbs h
 refine Qlp (γ:=Unit) (δ:=Unit) hl [0, 1, 2, 3, 4, 5, 6] (fun s1 g1 => [(12, VP.of (s1.1))]) (fun s1 g1 => [(0, ⟨some (ps1 4), .var (s1.2 : Vector Bool 128)⟩)]) (fun q1 => Exit.exit 0) (fun q1 g1 => [(12, VP.of (q1.1)), (13, VP.of (q1.2.1))]) (fun q1 g1 => [(0, ⟨some (ps1 4), .var (q1.2.2 : Vector Bool 128)⟩)]) () (fun s1 r h g1 => ?_) fun g1 => ?_
 ·clear hl
  refine Qsr ?_
  refine Q2 r_lss ?_
  refine Qns ?_
  refine Qcd h (fun h=>?_) fun h=>?_
  ·refine Qkn ?_
   refine Wp.seq ?_
   refine Wp.block ?_
   refine Qsr ?_
   refine Qm ?_
   refine Qa ?_
   refine Qnx ?_
   refine Wp.reg ?_
   refine Qm ?_
   refine Qm ?_
   obtain ⟨k1,hk1,h⟩:=Qbs h
   refine Qv (r_ia (k := k1) ar222 (look_t rfl) (look_t rfl) (idx_some hk1)) ?_
   refine Qld 0 ((Lens.id (Vector Bool 128)).comp (Lens.idx (α := Bool) 128 k1 (idx_some hk1).1)) ty4 ?_
   refine Qm ?_
   refine Qg1 r_move ?_
   obtain ⟨k2,hk2,h⟩:=Qbs h
   refine Qg (fun hb => r_ia (k := k2) ar222 (look_t rfl) (look_tc rfl hb) (idx_some (condM_some hk2 hb))) ?_
   refine Qg (fun hb => r_load (i := 1) ((Lens.id (Vector Bool 128)).comp (Lens.idx (α := Bool) 128 k2 (idx_some (condM_some hk2 hb)).1)) (r := vget y2 k2) ty4 (look_tc rfl hb) rfl rfl rfl) ?_
   refine Qan ?_
   obtain ⟨k3,hk3,h⟩:=Qbs h
   refine Qv (r_ia (k := k3) ar222 (look_t rfl) (look_t rfl) (idx_some hk3)) ?_
   refine Qst 0 ((Lens.id (Vector Bool 128)).comp (Lens.idx (α := Bool) 128 k3 (idx_some hk3).1)) ty4 ?_
   refine Sq.nil ?_
   refine To.bnorm ?_
   refine To.next ?_
   refine Wp.reg ?_
   refine Q2 r_add ?_
   refine Qm ?_
   refine Sq.nil ?_
   obtain rfl:=some_in h
   exact Qrd () 0
  ·refine Wp.exit ?_
   refine To.exit ?_
   obtain rfl:=some_in h
   exact Qlv () 0
 ·clear hl
  refine To.bexit ?_
  refine To.next ?_
  refine Qsr ?_
  refine Ql0 0 ty222 ?_
  obtain ⟨y3,hy3,h⟩:=Qbs h
  refine Qcl en148 (C_ref01_Make hy3) ?_
  refine Qs0 2 ty47 ?_
  refine Qnx ?_
  refine Wp.ret ?_
  obtain rfl:=some_in h
  exact To.end1 rfl (Qrc 2 ty47)
theorem C_ref01_Compare {x0 : T_api_Value} {x1 : T_api_Value}  {r : Int} (h : L_ref01_Compare x0 x1 = some r) : Meets Try.prog 73 [VP.of (x0), VP.of (x1)] (VP.of (r)) := by
 unfold L_ref01_Compare at h
 refine Meets.of Try.func73 rfl Try.ntmps73 rfl fun W A => ?_
 refine Qsr ?_
 refine Qbx fun p1 => ?_
 refine Qbx fun p2 => ?_
 refine Qa ?_
 refine Qns ?_
 obtain ⟨y1,hy1,h⟩:=Qbs h
 obtain ⟨y2,hy2,h⟩:=Qbs h
 refine Wp.draw mixed 6 [some 8, some 9, some 10, some 11, some 5, some 6] [[], [0], [], [2], [], []] [.val _, .val _, .val _, .val _, .new (.var (default : Vector Bool 128)), .new (.var (default : Vector Bool 128))] [false, false, false, false, false, false] (by kernel_rfl) rfl rfl rfl (fun ps1 => ⟨Hl0 1 ty47, Hcl en111 (C_ref01_Read hy1), Hl0 0 ty47, Hcl en111 (C_ref01_Read hy2), ao_alloc zr222, ao_alloc zr222, trivial⟩) fun ps1 => ?_
 refine Qs0 0 ty222 ?_
 refine Qs0 1 ty222 ?_
 refine Qns ?_
 refine Qsr ?_
 refine Qa ?_
 refine Qnx ?_
 refine Wp.block ?_
 obtain ⟨e1,hl,h⟩:=Qbs h
 refine Qlp (γ:=Unit) (δ:=Unit) hl [0, 1, 2, 3, 5, 6] (fun s1 g1 => [(4, VP.of (0 : Int)), (7, VP.of (s1))]) (fun s1 g1 => []) (fun q1 => Sum.elim (fun q1 => Exit.exit 0) (fun q1 => Exit.ret) q1) (fun q1 g1 => Sum.elim (fun q1 => [(4, VP.of (0 : Int)), (7, VP.of (q1.1)), (13, VP.of (q1.2))]) (fun q1 => [(4, VP.of (q1.1)), (7, VP.of (q1.2.1)), (13, VP.of (q1.2.2.1)), (22, VP.of (q1.2.2.2.1)), (25, VP.of (q1.2.2.2.2))]) q1) (fun q1 g1 => Sum.elim (fun q1 => []) (fun q1 => []) q1) () (fun s1 r h g1 => ?_) fun g1 => ?_
 ·clear hl
  refine Wp.seq ?_
  refine Qsr ?_
  refine Qm ?_
  refine Q2 r_geq ?_
  refine Qnx ?_
  refine Qcd h (fun h=>?_) fun h=>?_
  ·refine Qkn ?_
   refine Wp.seq ?_
   refine Wp.block ?_
   refine Wp.seq ?_
   obtain ⟨k1,hk1,h⟩:=Qbs h
   obtain ⟨k2,hk2,h⟩:=Qbs h
   refine Wp.draw mixed 7 [some 16, some 17, some 18, some 19, some 20, some 21, some 22] [[], [0], [1], [], [3], [4], [2, 5]] [.val _, .val _, .val _, .val _, .val _, .val _, .val _] [false, false, false, false, false, false, false] (by kernel_rfl) rfl rfl rfl (fun ps2 => ⟨Hm, Hv fun L' hL => r_ia (k := k1) ar222 (look_t rfl) (look_t rfl) (idx_some hk1), Hld 0 ((Lens.id (Vector Bool 128)).comp (Lens.idx (α := Bool) 128 k1 (idx_some hk1).1)) ty4, Hm, Hv fun L' hL => r_ia (k := k2) ar222 (look_t rfl) (look_t rfl) (idx_some hk2), Hld 1 ((Lens.id (Vector Bool 128)).comp (Lens.idx (α := Bool) 128 k2 (idx_some hk2).1)) ty4, H2 (r_bne Try.underlying4), trivial⟩) fun ps2 => ?_
   refine Qnx ?_
   refine Qcd h (fun h=>?_) fun h=>?_
   ·refine Wp.seq ?_
    refine Qsr ?_
    refine Qm ?_
    obtain ⟨k3,hk3,h⟩:=Qbs h
    refine Qv (r_ia (k := k3) ar222 (look_t rfl) (look_t rfl) (idx_some hk3)) ?_
    refine Qld 1 ((Lens.id (Vector Bool 128)).comp (Lens.idx (α := Bool) 128 k3 (idx_some hk3).1)) ty4 ?_
    refine Qnx ?_
    refine Qcd h (fun h=>?_) fun h=>?_
    ·refine Qsr ?_
     refine Qa ?_
     refine Qnx ?_
     refine Wp.ret ?_
     refine To.ret ?_
     refine To.bret ?_
     refine To.ret ?_
     obtain rfl:=some_in h
     exact Qlv () 0
    ·refine Qkn ?_
     refine Qsr ?_
     refine Qa ?_
     refine Qnx ?_
     refine Wp.ret ?_
     refine To.bret ?_
     refine To.ret ?_
     obtain rfl:=some_in h
     exact Qlv () 0
   ·refine Wp.skip ?_
    refine To.bnorm ?_
    refine To.next ?_
    refine Wp.reg ?_
    refine Qm ?_
    refine Q2 r_sub ?_
    refine Qa ?_
    refine Sq.nil ?_
    obtain rfl:=some_in h
    exact Qrd () 0
  ·refine Wp.exit ?_
   refine To.exit ?_
   obtain rfl:=some_in h
   exact Qlv () 0
 ·clear hl
  rcases e1 with e1 | e1
  ·simp only [Sum.elim_inl] at h
   refine To.bexit ?_
   refine To.next ?_
   refine Qsr ?_
   refine Qa ?_
   refine Qnx ?_
   refine Wp.ret ?_
   obtain rfl:=some_in h
   exact Qe1
  ·simp only [Sum.elim_inr] at h
   refine To.bret ?_
   refine To.ret ?_
   obtain rfl:=some_in h
   exact Qe1
theorem C_mcase_Codes_Bool {x0 : T_mcase_Codes} {pp0 : Nat} {r : Bool × T_mcase_Codes} (h : L_mcase_Codes_Bool x0 = some r) : MeetsO Try.prog 54 [VP.eq (.pointer (some ⟨pp0, 0, none⟩))] [⟨some pp0, .var (x0 : T_mcase_Codes)⟩] (δ := Unit) (fun d => VP.of (r.1)) (fun d => [⟨some pp0, .var (r.2 : T_mcase_Codes)⟩]) := by
 unfold L_mcase_Codes_Bool at h
 refine MeetsO.of Try.func54 rfl Try.ntmps54 rfl fun W A => ?_
 refine Qsr ?_
 refine Qa ?_
 refine Qnr ?_
 refine Qm ?_
 refine Sq.bring 0 rfl ?_
 obtain ⟨y1,hy1,h⟩:=Qbs h
 refine QcO 1 en49 (C_mcase_Codes_Next hy1) fun q1 => ?_
 refine Q2 r_eql ?_
 refine Qa ?_
 refine Qnx ?_
 refine Wp.ret ?_
 refine To.bring 0 rfl ?_
 obtain rfl:=some_in h
 exact Qo1 ()
theorem C_mcase_Codes_match {x0 : T_mcase_Codes} {x1 : T_api_Schema} {x2 : T_api_Key} {pp0 : Nat} {r : T_api_Match × T_mcase_Codes} (h : L_mcase_Codes_match x0 x1 x2 = some r) : MeetsO Try.prog 77 [VP.eq (.pointer (some ⟨pp0, 0, none⟩)), VP.of (x1), VP.of (x2)] [⟨some pp0, .var (x0 : T_mcase_Codes)⟩] (δ := Unit) (fun d => VP.of (r.1)) (fun d => [⟨some pp0, .var (r.2 : T_mcase_Codes)⟩]) := by
 unfold L_mcase_Codes_match at h
 refine MeetsO.of Try.func77 rfl Try.ntmps77 rfl fun W A => ?_
 refine Qsr ?_
 refine Qbx fun p1 => ?_
 refine Qbx fun p2 => ?_
 refine Qal zr104 fun p3 => ?_
 refine Qnr ?_
 refine Ql0 2 ty33 ?_
 refine Q1 (r_fa fd163_1) ?_
 refine Qld 1 le_T_api_Key_Field ty3 ?_
 obtain ⟨y1,hy1,h⟩:=Qbs h
 refine Qcl en112 (C_mcase_bitsOf hy1) ?_
 refine Qa ?_
 refine Qnr ?_
 refine Qm ?_
 refine Sq.bring 3 rfl ?_
 obtain ⟨y2,hy2,h⟩:=Qbs h
 refine QcO 1 en49 (C_mcase_Codes_Next hy2) fun q1 => ?_
 refine Q1 (r_ci64 Try.underlying3 Try.underlying45) ?_
 refine Qv (r_shl64 (look_t rfl) (look_u64 24 rfl)) ?_
 refine Qm ?_
 refine Sq.bring 0 rfl ?_
 obtain ⟨y3,hy3,h⟩:=Qbs h
 refine QcO 1 en49 (C_mcase_Codes_Next hy3) fun q2 => ?_
 refine Q1 (r_ci64 Try.underlying3 Try.underlying45) ?_
 refine Qv (r_shl64 (look_t rfl) (look_u64 8 rfl)) ?_
 obtain ⟨z1,hz1,h⟩:=Qbs h
 refine Qn hz1 (r_or64 (look_t rfl) (look_t rfl)) ?_
 refine Qm ?_
 refine Sq.bring 0 rfl ?_
 obtain ⟨y4,hy4,h⟩:=Qbs h
 refine QcO 1 en49 (C_mcase_Codes_Next hy4) fun q3 => ?_
 refine Q1 (r_ci64 Try.underlying3 Try.underlying45) ?_
 refine Q2 r_or64 ?_
 obtain ⟨z2,hz2,h⟩:=Qbs h
 refine Qn hz2 (r_build (b := ({ (default : T_api_Value) with f_Lo := z1 ||| (BitVec.ofInt 64 y4.1) } : T_api_Value)) rfl bu47 zr47 (.cons le_T_api_Value_Lo rfl (look_t rfl) rfl (.nil))) ?_
 refine Qm ?_
 obtain ⟨y5,hy5,h⟩:=Qbs h
 refine Qcl en79 (C_mcase_Low hy5) ?_
 refine Qal zr47 fun p4 => ?_
 refine Qs0 0 ty47 ?_
 refine Qns ?_
 refine Qsr ?_
 refine Q1 (r_fa fd163_2) ?_
 refine Qld 3 le_T_api_Key_Kind ty3 ?_
 refine Qnx ?_
 refine Wp.block ?_
 refine Qsr ?_
 refine Q2 r_eql ?_
 refine Qa ?_
 refine Qnx ?_
 refine Qcd h (fun h=>?_) fun h=>?_
 ·refine Qsr ?_
  refine Qm ?_
  refine Sq.bring 1 rfl ?_
  obtain ⟨y6,hy6,h⟩:=Qbs h
  refine QcO 1 en49 (C_mcase_Codes_Next hy6) fun q4 => ?_
  refine Q2 r_gtr ?_
  refine Qnx ?_
  refine Qcd h (fun h=>?_) fun h=>?_
  ·refine Qsr ?_
   refine Qm ?_
   refine Qm ?_
   refine Qm ?_
   refine Sq.bring 0 rfl ?_
   obtain ⟨y7,hy7,h⟩:=Qbs h
   refine QcO 1 en49 (C_mcase_Codes_Next hy7) fun q5 => ?_
   refine Q2 r_add ?_
   refine Qbl [y1, 8, 16, 1, w64 (1 + y7.1)] Try.underlying64 ty3 zr3 ?_
   refine Qm ?_
   refine Sq.bring 0 rfl ?_
   obtain ⟨y8,hy8,h⟩:=Qbs h
   refine QcO 1 en49 (C_mcase_Codes_Next hy8) fun q6 => ?_
   obtain ⟨k1,hk1,h⟩:=Qbs h
   refine Qix hk1 Try.underlying64 ty3 ?_
   refine Q1 (r_loadp ty3) ?_
   refine Qa ?_
   refine Qns ?_
   obtain ⟨y9,hy9,h⟩:=Qbs h
   obtain ⟨z3,hz3,h⟩:=Qbs h
   obtain ⟨z4,hz4,h⟩:=Qbs h
   refine Wp.draw mixed 10 [some 51, some 52, some 53, some 54, some 55, some 56, some 57, some 58, some 59, some 60] [[], [], [1], [], [], [3, 4], [5], [2, 6], [7], [0, 8]] [.val _, .val _, .val _, .val _, .val _, .val _, .val _, .val _, .val _, .val _] [false, false, false, false, false, false, false, false, false, false] (by kernel_rfl) rfl rfl rfl (fun ps1 => ⟨Hm, H1 (r_fa fd47_1), Hld 1 le_T_api_Value_Lo ty45, Hm, Hm, Hcl en113 (C_mcase_mask hy9), Hv fun L' hL => r_field le_T_api_Value_Lo fv47_1 ty45 rfl (look_t rfl) rfl rfl, H2 r_and64, Hn hz3 fun L' hL => r_build (b := ({ (default : T_api_Value) with f_Lo := y5.f_Lo &&& y9.f_Lo } : T_api_Value)) rfl bu47 zr47 (.cons le_T_api_Value_Lo rfl (look_t rfl) rfl (.nil)), Hn hz4 fun L' hL => r_build (b := ({ (default : T_api_Match) with f_Present := true, f_Prefix := lget [y1, 8, 16, 1, w64 (1 + y7.1)] k1, f_Value := z3 } : T_api_Match)) rfl bu104 zr104 (.cons le_T_api_Match_Present rfl (look_bool true) rfl (.cons le_T_api_Match_Prefix rfl (look_t rfl) rfl (.cons le_T_api_Match_Value rfl (look_t rfl) rfl (.nil)))), trivial⟩) fun ps1 => ?_
   refine Qs0 2 ty104 ?_
   refine Qnx ?_
   refine Wp.ret ?_
   refine To.bret ?_
   refine To.ret ?_
   refine To.bring 0 rfl ?_
   obtain rfl:=some_in h
   exact To.endO1 () (.cons_cons _ (List.nil_sublist _)) rfl rfl (rvo_c (i := 2) ty104 rfl rfl)
  ·refine Wp.skip ?_
   refine To.bnorm ?_
   refine To.next ?_
   refine Qsr ?_
   refine Qbd bu104 zr104 (default : T_api_Match) .nil ?_
   refine Qs0 2 ty104 ?_
   refine Qnx ?_
   refine Wp.ret ?_
   refine To.bring 0 rfl ?_
   obtain rfl:=some_in h
   exact To.endO1 () (.cons_cons _ (List.nil_sublist _)) rfl rfl (rvo_c (i := 2) ty104 rfl rfl)
 ·refine Qsr ?_
  refine Q2 r_eql ?_
  refine Qa ?_
  refine Qnx ?_
  refine Qcd h (fun h=>?_) fun h=>?_
  ·refine Qsr ?_
   refine Qm ?_
   refine Sq.bring 1 rfl ?_
   obtain ⟨y10,hy10,h⟩:=Qbs h
   refine QcO 1 en49 (C_mcase_Codes_Next hy10) fun q7 => ?_
   refine Qbl ([255, 15, 1, 12, y10.1] : List Int) Try.underlying64 ty3 zr3 ?_
   refine Qm ?_
   refine Sq.bring 0 rfl ?_
   obtain ⟨y11,hy11,h⟩:=Qbs h
   refine QcO 1 en49 (C_mcase_Codes_Next hy11) fun q8 => ?_
   obtain ⟨k2,hk2,h⟩:=Qbs h
   refine Qix hk2 Try.underlying64 ty3 ?_
   refine Q1 (r_loadp ty3) ?_
   refine Q1 (r_ci64 Try.underlying3 Try.underlying45) ?_
   obtain ⟨z5,hz5,h⟩:=Qbs h
   refine Qn hz5 (r_build (b := ({ (default : T_api_Value) with f_Lo := BitVec.ofInt 64 (lget ([255, 15, 1, 12, y10.1] : List Int) k2) } : T_api_Value)) rfl bu47 zr47 (.cons le_T_api_Value_Lo rfl (look_t rfl) rfl (.nil))) ?_
   refine Qm ?_
   obtain ⟨y12,hy12,h⟩:=Qbs h
   refine Qcl en79 (C_mcase_Low hy12) ?_
   refine Qal zr47 fun p5 => ?_
   refine Qs0 0 ty47 ?_
   refine Qnr ?_
   refine Q1 (r_fa fd47_1) ?_
   refine Qld 0 le_T_api_Value_Lo ty45 ?_
   refine Qv (r_neq64 (look_t rfl) (look_u64 0 rfl)) ?_
   refine Qnx ?_
   refine Qcd h (fun h=>?_) fun h=>?_
   ·refine Qsr ?_
    refine Ql0 0 ty47 ?_
    refine Q1 (r_fa fd47_1) ?_
    refine Qld 2 le_T_api_Value_Lo ty45 ?_
    refine Q1 (r_fa fd47_1) ?_
    refine Qld 0 le_T_api_Value_Lo ty45 ?_
    refine Q2 r_and64 ?_
    obtain ⟨z6,hz6,h⟩:=Qbs h
    refine Qn hz6 (r_build (b := ({ (default : T_api_Value) with f_Lo := y5.f_Lo &&& y12.f_Lo } : T_api_Value)) rfl bu47 zr47 (.cons le_T_api_Value_Lo rfl (look_t rfl) rfl (.nil))) ?_
    obtain ⟨z7,hz7,h⟩:=Qbs h
    refine Qn hz7 (r_build (b := ({ (default : T_api_Match) with f_Present := true, f_Mask := y12, f_Value := z6 } : T_api_Match)) rfl bu104 zr104 (.cons le_T_api_Match_Present rfl (look_bool true) rfl (.cons le_T_api_Match_Mask rfl (look_t rfl) rfl (.cons le_T_api_Match_Value rfl (look_t rfl) rfl (.nil))))) ?_
    refine Qs0 3 ty104 ?_
    refine Qnx ?_
    refine Wp.ret ?_
    refine To.bret ?_
    refine To.ret ?_
    refine To.bring 1 rfl ?_
    obtain rfl:=some_in h
    exact To.endO1 () (.cons_cons _ (List.nil_sublist _)) rfl rfl (rvo_c (i := 3) ty104 rfl rfl)
   ·refine Wp.skip ?_
    refine To.bnorm ?_
    refine To.next ?_
    refine Qsr ?_
    refine Qbd bu104 zr104 (default : T_api_Match) .nil ?_
    refine Qs0 3 ty104 ?_
    refine Qnx ?_
    refine Wp.ret ?_
    refine To.bring 1 rfl ?_
    obtain rfl:=some_in h
    exact To.endO1 () (.cons_cons _ (List.nil_sublist _)) rfl rfl (rvo_c (i := 3) ty104 rfl rfl)
  ·refine Qsr ?_
   refine Q2 r_eql ?_
   refine Qa ?_
   refine Qnx ?_
   refine Qcd h (fun h=>?_) fun h=>?_
   ·refine Wp.seq ?_
    obtain ⟨y13,hy13,h⟩:=Qbs h
    obtain ⟨z8,hz8,h⟩:=Qbs h
    refine Qwl [0, 1, 2, 4, 5, 6, 7, 8, 12, 13, 14, 15, 16, 17, 18, 19, 20, 21, 22, 23, 24, 25, 26, 27, 28, 29, 30, 31, 32, 33, 36, 37, 61, 62, 85, 86] ?_
    refine Wp.drawD mixed (Hp 87 [] [] _ :: Hp 88 (0 :: []) (0 :: []) _ :: Hp 89 [] [] _ :: ⟨some 90, (2 :: []), (1 :: []), (1 :: []), fun _ => VP.of (y13.1), fun hd _ => ⟨some pp0, .var (y13.2 : T_mcase_Codes)⟩⟩ :: Hp 91 (3 :: []) [] _ :: Hp 92 (1 :: 4 :: []) [] _ :: Hp 93 [] [] _ :: Hp 94 (6 :: []) [] _ :: Hp 95 (7 :: []) [] _ :: Hp 96 (8 :: []) [] _ :: Hp 97 (5 :: 9 :: []) [] _ :: Hp 11 (10 :: []) [] _ :: []) _ (0 :: 1 :: 2 :: 4 :: 5 :: 6 :: 7 :: 8 :: 12 :: 13 :: 14 :: 15 :: 16 :: 17 :: 18 :: 19 :: 20 :: 21 :: 22 :: 23 :: 24 :: 25 :: 26 :: 27 :: 28 :: 29 :: 30 :: 31 :: 32 :: 33 :: 36 :: 37 :: 61 :: 62 :: 85 :: 86 :: []) rfl rfl (by kernel_rfl) ⟨D1 (r_fa fd47_1), Dld 0 le_T_api_Value_Lo ty45, Dm, ?_, D1 (r_ci64 Try.underlying3 Try.underlying45), D2 r_add64, Dm, D1 (r_ci64 Try.underlying3 Try.underlying173), Dv fun hd E' L' hE hL => r_shl64 (look_u64 1 rfl) (look_t (hE _ _ rfl)), Dv fun hd E' L' hE hL => r_sub64 (look_t (hE _ _ rfl)) (look_u64 1 rfl), Dv fun hd E' L' hE hL => (r_minu64 (look_t (hE _ _ rfl)) (look_t (hE _ _ rfl))).as (some_in hz8), Dv fun hd E' L' hE hL => r_asg (look_t (hE _ _ rfl)), trivial⟩ fun hd => ?_
    ·intro hd E' L' hE hL
     refine Sq.bring 1 (hL 1 _ rfl rfl) ?_
     refine Sq.callO (Lin := [⟨some pp0, .var (y4.2 : T_mcase_Codes)⟩]) (Lr := L'.eraseIdx 1) en49 (C_mcase_Codes_Next hy13) ⟨look_t (hE _ _ rfl), look_int 256, trivial⟩ rfl fun q9 => ?_
     refine Sq.nil ?_
     refine To.back 1 (hL 1 _ rfl rfl) ?_
     exact To.fin (gm []) rfl rfl
    refine To.eqL (L2 := [⟨some p4, .var (y5 : T_api_Value)⟩, ⟨some pp0, .var (y13.2 : T_mcase_Codes)⟩, ⟨some p3, .var ((default : T_api_Match) : T_api_Match)⟩, ⟨some p2, .var (x2 : T_api_Key)⟩, ⟨some p1, .var (x1 : T_api_Schema)⟩]) rfl ?_
    refine Qtl [0, 1, 2, 4, 5, 6, 7, 8, 11, 12, 13, 14, 15, 16, 17, 18, 19, 20, 21, 22, 23, 24, 25, 26, 27, 28, 29, 30, 31, 32, 33, 36, 37, 61, 62, 85, 86, 87, 88, 89, 90, 91, 92, 93, 94, 95, 96, 97] ?_
    refine To.next ?_
    refine Qsr ?_
    refine Qm ?_
    refine Sq.bring 1 rfl ?_
    obtain ⟨y14,hy14,h⟩:=Qbs h
    refine QcO 1 en49 (C_mcase_Codes_Next hy14) fun q10 => ?_
    refine Q2 r_gtr ?_
    refine Qm ?_
    refine Qg1 (r_fa fd47_1) ?_
    refine Qg (fun hb => r_load (i := 1) ((Lens.id T_api_Value).comp le_T_api_Value_Lo) (r := y5.f_Lo) ty45 (look_tc rfl hb) rfl rfl rfl) ?_
    refine Qg (fun hb => r_eql64 (look_tc rfl hb) (look_u64 0 rfl)) ?_
    refine Qg1 r_move ?_
    refine Sq.gg (fun hb => r_move (look_t rfl)) rfl rfl rfl rfl rfl ?_
    refine Sq.gg (fun hb => r_move (look_t rfl)) rfl rfl rfl rfl rfl ?_
    refine Sq.gg (fun hb => r_ci64 Try.underlying3 Try.underlying173 (look_tc rfl hb)) rfl rfl rfl rfl rfl ?_
    refine Sq.gg (fun hb => r_shl64 (look_u64 1 rfl) (look_tc rfl hb)) rfl rfl rfl rfl rfl ?_
    refine Sq.gg (fun hb => r_sub64 (look_tc rfl hb) (look_u64 1 rfl)) rfl rfl rfl rfl rfl ?_
    refine Sq.gg (fun hb => r_eql64 (look_tc rfl hb) (look_tc rfl hb)) rfl rfl rfl rfl rfl ?_
    refine Qg (fun hb => r_and (look_tc rfl hb) (look_t rfl) (fun h => ⟨hb, h⟩)) ?_
    refine Qg1 r_not ?_
    obtain ⟨z9,hz9,h⟩:=Qbs h
    refine Qn hz9 (r_and (look_t rfl) (look_t rfl) (fun h => h)) ?_
    refine Qnx ?_
    refine Qcd h (fun h=>?_) fun h=>?_
    ·refine Qsr ?_
     refine Ql0 1 ty47 ?_
     refine Qm ?_
     refine Qbd bu47 zr47 ({ (default : T_api_Value) with f_Lo := z8 } : T_api_Value) (Qfl le_T_api_Value_Lo .nil) ?_
     obtain ⟨z10,hz10,h⟩:=Qbs h
     refine Qn hz10 (r_build (b := ({ (default : T_api_Match) with f_Present := true, f_Value := y5, f_High := ({ (default : T_api_Value) with f_Lo := z8 } : T_api_Value) } : T_api_Match)) rfl bu104 zr104 (.cons le_T_api_Match_Present rfl (look_bool true) rfl (.cons le_T_api_Match_Value rfl (look_t rfl) rfl (.cons le_T_api_Match_High rfl (look_t rfl) rfl (.nil))))) ?_
     refine Qs0 2 ty104 ?_
     refine Qnx ?_
     refine Wp.ret ?_
     refine To.bret ?_
     refine To.ret ?_
     refine To.bring 0 rfl ?_
     obtain rfl:=some_in h
     exact To.endO1 () (.cons_cons _ (List.nil_sublist _)) rfl rfl (rvo_c (i := 2) ty104 rfl rfl)
    ·refine Wp.skip ?_
     refine To.bnorm ?_
     refine To.next ?_
     refine Qsr ?_
     refine Qbd bu104 zr104 (default : T_api_Match) .nil ?_
     refine Qs0 2 ty104 ?_
     refine Qnx ?_
     refine Wp.ret ?_
     refine To.bring 0 rfl ?_
     obtain rfl:=some_in h
     exact To.endO1 () (.cons_cons _ (List.nil_sublist _)) rfl rfl (rvo_c (i := 2) ty104 rfl rfl)
   ·refine Qsr ?_
    refine Ql0 0 ty47 ?_
    obtain ⟨z11,hz11,h⟩:=Qbs h
    refine Qn hz11 (r_build (b := ({ (default : T_api_Match) with f_Present := true, f_Value := y5 } : T_api_Match)) rfl bu104 zr104 (.cons le_T_api_Match_Present rfl (look_bool true) rfl (.cons le_T_api_Match_Value rfl (look_t rfl) rfl (.nil)))) ?_
    refine Qs0 2 ty104 ?_
    refine Qnx ?_
    refine Wp.ret ?_
    refine To.bret ?_
    refine To.ret ?_
    refine To.bring 1 rfl ?_
    obtain rfl:=some_in h
    exact To.endO1 () (.cons_cons _ (List.nil_sublist _)) rfl rfl (rvo_c (i := 2) ty104 rfl rfl)
theorem C_entry_table {x0 : T_api_Schema} {x1 : T_api_Entry}  {r : T_api_Table × Bool} (h : L_entry_table x0 x1 = some r) : Meets Try.prog 139 [VP.of (x0), VP.of (x1)] (VP.tup [VP.of (r.1), VP.of (r.2)]) := by
 unfold L_entry_table at h
 refine Meets.of Try.func139 rfl Try.ntmps139 rfl fun W A => ?_
 refine Qsr ?_
 refine Qbx fun p1 => ?_
 refine Qbx fun p2 => ?_
 refine Qal zr136 fun p3 => ?_
 refine Qa ?_
 refine Qnr ?_
 refine Ql0 2 ty33 ?_
 refine Q1 (r_fa fd89_0) ?_
 refine Qld 1 le_T_api_Entry_Table ty3 ?_
 obtain ⟨y1,hy1,h⟩:=Qbs h
 refine Qcl en126 (C_check_TableOf hy1) ?_
 refine Qa ?_
 refine Qns ?_
 refine Qsr ?_
 refine Qm ?_
 refine Q2 r_lss ?_
 refine Qnx ?_
 refine Qcd h (fun h=>?_) fun h=>?_
 ·refine Qsr ?_
  refine Qbd bu136 zr136 (default : T_api_Table) .nil ?_
  refine Qs0 0 ty136 ?_
  refine Qa ?_
  refine Qnx ?_
  refine Wp.ret ?_
  refine To.ret ?_
  obtain rfl:=some_in h
  exact To.end2 rfl (Qrc 0 ty136) (rv_t rfl)
 ·refine Qkn ?_
  refine Qsr ?_
  refine Q1 (r_fa fd33_4) ?_
  refine Qld 2 le_T_api_Schema_Tables ty28 ?_
  refine Qm ?_
  obtain ⟨k1,hk1,h⟩:=Qbs h
  refine Qix hk1 Try.underlying28 ty136 ?_
  refine Q1 (r_loadp ty136) ?_
  refine Qs0 0 ty136 ?_
  refine Qa ?_
  refine Qnx ?_
  refine Wp.ret ?_
  obtain rfl:=some_in h
  exact To.end2 rfl (Qrc 0 ty136) (rv_t rfl)
end Go.Proofs.Ytodajdohokmjnaa

namespace Go.Proofs.Ytodajdohokmjnaa
open Go Gv
set_option linter.unusedVariables false
set_option linter.unusedSimpArgs false
set_option maxRecDepth 100000
set_option maxHeartbeats 2000000
theorem C_own_Installed {x0 : T_api_Installed}  {r : T_api_Installed} (h : L_own_Installed x0 = some r) : Meets Try.prog 81 [VP.of (x0)] (VP.of (r)) := by
 unfold L_own_Installed at h
 refine Meets.of Try.func81 rfl Try.ntmps81 rfl fun W A => ?_
 refine Qsr ?_
 refine Qbx fun p1 => ?_
 refine Qal zr92 fun p2 => ?_
 refine Qnr ?_
 refine Q1 (r_fa fd92_0) ?_
 refine Qld 1 le_T_api_Installed_Entry ty89 ?_
 obtain ⟨y1,hy1,h⟩:=Qbs h
 refine Qcl en116 (C_own_Entry hy1) ?_
 refine Q1 (r_fa fd92_0) ?_
 refine Qst 1 le_T_api_Installed_Entry ty89 ?_
 refine Qnr ?_
 refine Ql0 1 ty92 ?_
 refine Qs0 0 ty92 ?_
 refine Qnx ?_
 refine Wp.ret ?_
 obtain rfl:=some_in h
 exact To.end1 rfl (Qrc 0 ty92)
theorem C_mcase_Codes_Point {x0 : T_mcase_Codes} {pp0 : Nat} {r : (Vector T_api_Value 4) × T_mcase_Codes} (h : L_mcase_Codes_Point x0 = some r) : MeetsO Try.prog 33 [VP.eq (.pointer (some ⟨pp0, 0, none⟩))] [⟨some pp0, .var (x0 : T_mcase_Codes)⟩] (δ := Unit) (fun d => VP.of (r.1)) (fun d => [⟨some pp0, .var (r.2 : T_mcase_Codes)⟩]) := by
 unfold L_mcase_Codes_Point at h
 refine MeetsO.of Try.func33 rfl Try.ntmps33 rfl fun W A => ?_
 refine Qsr ?_
 refine Qal zr81 fun p1 => ?_
 refine Qnr ?_
 refine Qal zr81 fun p2 => ?_
 refine Qns ?_
 refine Qsr ?_
 refine Qm ?_
 refine Qnx ?_
 refine Wp.block ?_
 obtain ⟨e1,hl,h⟩:=Qbs h
 refine Qlp (γ:=Unit) (δ:=Unit) hl [0, 2, 3] (fun s1 g1 => [(5, VP.of (s1.1))]) (fun s1 g1 => [(0, ⟨some p2, .var (s1.2.1 : Vector T_api_Value 4)⟩), (2, ⟨some pp0, .var (s1.2.2 : T_mcase_Codes)⟩)]) (fun q1 => Exit.exit 0) (fun q1 g1 => [(5, VP.of (q1.1)), (6, VP.of (q1.2.1))]) (fun q1 g1 => [(0, ⟨some p2, .var (q1.2.2.1 : Vector T_api_Value 4)⟩), (2, ⟨some pp0, .var (q1.2.2.2 : T_mcase_Codes)⟩)]) () (fun s1 r h g1 => ?_) fun g1 => ?_
 ·clear hl
  refine Qsr ?_
  refine Q2 r_lss ?_
  refine Qns ?_
  refine Qcd h (fun h=>?_) fun h=>?_
  ·refine Qkn ?_
   refine Wp.seq ?_
   refine Wp.block ?_
   refine Qsr ?_
   refine Qm ?_
   refine Qa ?_
   refine Qnr ?_
   refine Qm ?_
   refine Qm ?_
   refine Sq.bring 2 rfl ?_
   obtain ⟨y1,hy1,h⟩:=Qbs h
   refine QcO 1 en49 (C_mcase_Codes_Next hy1) fun q2 => ?_
   refine Q1 (r_ci64 Try.underlying3 Try.underlying45) ?_
   obtain ⟨z1,hz1,h⟩:=Qbs h
   refine Qn hz1 (r_build (b := ({ (default : T_api_Value) with f_Lo := BitVec.ofInt 64 y1.1 } : T_api_Value)) rfl bu47 zr47 (.cons le_T_api_Value_Lo rfl (look_t rfl) rfl (.nil))) ?_
   obtain ⟨k1,hk1,h⟩:=Qbs h
   refine Qv (r_ia (k := k1) ar81 (look_t rfl) (look_t rfl) (idx_some hk1)) ?_
   refine Qst 1 ((Lens.id (Vector T_api_Value 4)).comp (Lens.idx (α := T_api_Value) 4 k1 (idx_some hk1).1)) ty47 ?_
   refine Qnr ?_
   refine Qm ?_
   refine Sq.bring 0 rfl ?_
   obtain ⟨y2,hy2,h⟩:=Qbs h
   refine QcO 1 en49 (C_mcase_Codes_Next hy2) fun q3 => ?_
   refine Q2 r_eql ?_
   refine Qnx ?_
   obtain ⟨m1,hm1,h⟩:=Qbs h
   refine Qcm (γ:=Unit) [0, 2, 3, 4, 5, 6, 16] (fun g2 => []) (fun g2 => [(0, ⟨some pp0, .var (m1.1 : T_mcase_Codes)⟩), (1, ⟨some p2, .var (m1.2 : Vector T_api_Value 4)⟩)]) (fun g2 => ?_) (fun hm hc => ?_) fun hm hc => ?_
   ·clear hm1
    refine To.bnorm ?_
    refine To.next ?_
    refine Wp.reg ?_
    refine Q2 r_add ?_
    refine Qm ?_
    refine Sq.nil ?_
    refine To.bring 2 rfl ?_
    refine To.bring 2 rfl ?_
    obtain rfl:=some_in h
    exact Qrd () 0
   ·have h := cond_t hc hm1
    obtain ⟨k2,hk2,h⟩:=Qbs h
    obtain ⟨y3,hy3,h⟩:=Qbs h
    obtain ⟨z2,hz2,h⟩:=Qbs h
    obtain ⟨k3,hk3,h⟩:=Qbs h
    obtain ⟨z3,hz3,h⟩:=Qbs h
    refine Qwl [0, 2, 3, 4, 5, 6, 7, 8, 9, 10, 11, 12, 13, 14, 15, 16] ?_
    refine Wp.drawD mixed (Hp 17 [] [] _ :: Hp 18 [] [] _ :: Hp 19 (1 :: []) [] _ :: Hp 20 (2 :: []) [] _ :: Hp 21 (3 :: []) (1 :: []) _ :: Hp 22 (4 :: []) [] _ :: Hp 23 [] [] _ :: ⟨some 24, (6 :: []), (0 :: []), (0 :: []), fun _ => VP.of (y3.1), fun hd _ => ⟨some pp0, .var (y3.2 : T_mcase_Codes)⟩⟩ :: Hp 25 (7 :: []) [] _ :: Hp 26 (5 :: 8 :: []) [] _ :: Hp 27 (0 :: []) [] _ :: Hp 28 (10 :: []) [] _ :: ⟨none, (4 :: 9 :: 11 :: []), (1 :: []), (1 :: []), fun _ => VP.any, fun hd _ => ⟨some p2, .var (z3 : Vector T_api_Value 4)⟩⟩ :: []) _ (0 :: 2 :: 3 :: 4 :: 5 :: 6 :: 7 :: 8 :: 9 :: 10 :: 11 :: 12 :: 13 :: 14 :: 15 :: 16 :: []) rfl rfl (by kernel_rfl) ⟨Dm, Dm, Dv fun hd E' L' hE hL => r_ia (k := k2) ar81 (look_t (hE _ _ rfl)) (look_t (hE _ _ rfl)) (idx_some hk2), D1 (r_fa fd47_1), Dld 1 (((Lens.id (Vector T_api_Value 4)).comp (Lens.idx (α := T_api_Value) 4 k2 (idx_some hk2).1)).comp le_T_api_Value_Lo) ty45, Dv fun hd E' L' hE hL => r_shl64 (look_t (hE _ _ rfl)) (look_u64 24 rfl), Dm, ?_, D1 (r_ci64 Try.underlying3 Try.underlying45), Dv fun hd E' L' hE hL => (r_or64 (look_t (hE _ _ rfl)) (look_t (hE _ _ rfl))).as (some_in hz2), Dv fun hd E' L' hE hL => r_ia (k := k3) ar81 (look_t (hE _ _ rfl)) (look_t (hE _ _ rfl)) (idx_some hk3), D1 (r_fa fd47_1), ?_, trivial⟩ fun hd => ?_
    ·intro hd E' L' hE hL
     refine Sq.bring 0 (hL 0 _ rfl rfl) ?_
     refine Sq.callO (Lin := [⟨some pp0, .var (y2.2 : T_mcase_Codes)⟩]) (Lr := L'.eraseIdx 0) en49 (C_mcase_Codes_Next hy3) ⟨look_t (hE _ _ rfl), look_int 256, trivial⟩ rfl fun q4 => ?_
     refine Sq.nil ?_
     refine To.back 0 (hL 0 _ rfl rfl) ?_
     exact To.fin (gm []) rfl rfl
    ·intro hd E' L' hE hL
     refine Sq.store (i := 1) (((Lens.id (Vector T_api_Value 4)).comp (Lens.idx (α := T_api_Value) 4 k3 (idx_some hk3).1)).comp le_T_api_Value_Lo) (v := (z2 : BitVec 64)) (b' := (z3 : Vector T_api_Value 4)) ty45 (look_t (hE _ _ rfl)) (look_t (hE _ _ rfl)) (hL 1 _ rfl rfl) rfl (some_in hz3) ?_
     refine Sq.nil ?_
     exact To.fin (gm []) rfl rfl
    refine To.eqL (L2 := [⟨some pp0, .var (y3.2 : T_mcase_Codes)⟩, ⟨some p2, .var (z3 : Vector T_api_Value 4)⟩, ⟨some p1, .var ((default : Vector T_api_Value 4) : Vector T_api_Value 4)⟩]) rfl ?_
    refine Qtl [0, 2, 3, 4, 5, 6, 7, 8, 9, 10, 11, 12, 13, 14, 15, 16, 17, 18, 19, 20, 21, 22, 23, 24, 25, 26, 27, 28] ?_
    obtain rfl:=some_in h
    exact Qmt 0 (hm ())
   ·have h := cond_f hc hm1
    refine Wp.skip ?_
    obtain rfl:=some_in h
    exact Qmt 0 (hm ())
  ·refine Wp.exit ?_
   refine To.exit ?_
   obtain rfl:=some_in h
   exact Qlv () 0
 ·clear hl
  refine To.bexit ?_
  refine To.next ?_
  refine Qsr ?_
  refine Ql0 0 ty81 ?_
  refine Qs0 1 ty81 ?_
  refine Qnx ?_
  refine Wp.ret ?_
  refine To.bring 2 rfl ?_
  obtain rfl:=some_in h
  exact To.endO1 () (.cons_cons _ (List.nil_sublist _)) rfl rfl (rvo_c (i := 2) ty81 rfl rfl)
theorem C_entry_bitsOf {x0 : T_api_Schema} {x1 : T_api_Key}  {r : Int} (h : L_entry_bitsOf x0 x1 = some r) : Meets Try.prog 141 [VP.of (x0), VP.of (x1)] (VP.of (r)) := by
 unfold L_entry_bitsOf at h
 refine Meets.of Try.func141 rfl Try.ntmps141 rfl fun W A => ?_
 refine Qsr ?_
 refine Qbx fun p1 => ?_
 refine Qbx fun p2 => ?_
 refine Qa ?_
 refine Qnr ?_
 refine Ql0 1 ty33 ?_
 refine Q1 (r_fa fd163_1) ?_
 refine Qld 0 le_T_api_Key_Field ty3 ?_
 obtain ⟨y1,hy1,h⟩:=Qbs h
 refine Qcl en156 (C_check_FieldOf hy1) ?_
 refine Qa ?_
 refine Qns ?_
 refine Qsr ?_
 refine Qm ?_
 refine Q2 r_lss ?_
 refine Qnx ?_
 refine Qcd h (fun h=>?_) fun h=>?_
 ·refine Qsr ?_
  refine Qa ?_
  refine Qnx ?_
  refine Wp.ret ?_
  refine To.ret ?_
  obtain rfl:=some_in h
  exact Qe1
 ·refine Qkn ?_
  refine Qsr ?_
  refine Q1 (r_fa fd33_0) ?_
  refine Qld 1 le_T_api_Schema_Fields ty24 ?_
  refine Qm ?_
  obtain ⟨k1,hk1,h⟩:=Qbs h
  refine Qix hk1 Try.underlying24 ty123 ?_
  refine Qfp le_T_api_Field_Bits fd123_2 ?_
  refine Q1 (r_loadp ty3) ?_
  refine Qa ?_
  refine Qnx ?_
  refine Wp.ret ?_
  obtain rfl:=some_in h
  exact Qe1
theorem C_value_Leading {x0 : Int} {x1 : Int}  {r : T_api_Value} (h : L_value_Leading x0 x1 = some r) : Meets Try.prog 177 [VP.of (x0), VP.of (x1)] (VP.of (r)) := by
 unfold L_value_Leading at h
 refine Meets.of Try.func177 rfl Try.ntmps177 rfl fun W A => ?_
 refine Qsr ?_
 refine Qal zr47 fun p1 => ?_
 refine Qnr ?_
 refine Qm ?_
 obtain ⟨y1,hy1,h⟩:=Qbs h
 refine Qcl en193 (C_value_within hy1) ?_
 refine Qa ?_
 refine Qnr ?_
 refine Qm ?_
 refine Q2 r_max ?_
 refine Qm ?_
 refine Q2 r_min ?_
 refine Qa ?_
 refine Qnr ?_
 refine Qm ?_
 obtain ⟨y2,hy2,h⟩:=Qbs h
 refine Qcl en184 (C_value_Ones hy2) ?_
 refine Qm ?_
 refine Qm ?_
 refine Q2 r_sub ?_
 obtain ⟨y3,hy3,h⟩:=Qbs h
 refine Qcl en184 (C_value_Ones hy3) ?_
 obtain ⟨y4,hy4,h⟩:=Qbs h
 refine Qcl en187 (C_value_Xor hy4) ?_
 refine Qs0 0 ty47 ?_
 refine Qnx ?_
 refine Wp.ret ?_
 obtain rfl:=some_in h
 exact To.end1 rfl (Qrc 0 ty47)
theorem C_ref04_Bits {x0 : T_api_Schema} {x1 : Int}  {r : Int} (h : L_ref04_Bits x0 x1 = some r) : Meets Try.prog 123 [VP.of (x0), VP.of (x1)] (VP.of (r)) := by
 unfold L_ref04_Bits at h
 refine Meets.of Try.func123 rfl Try.ntmps123 rfl fun W A => ?_
 refine Qsr ?_
 refine Qbx fun p1 => ?_
 refine Qa ?_
 refine Qns ?_
 obtain ⟨y1,hy1,h⟩:=Qbs h
 obtain ⟨k1,hk1,h⟩:=Qbs h
 refine Wp.draw mixed 8 [some 5, some 6, some 7, some 8, some 9, some 10, some 11, some 12] [[], [0], [], [], [2, 3], [1, 4], [5], [6]] [.val _, .val _, .val _, .val _, .val _, .val _, .val _, .val _] [false, false, false, false, false, false, false, false] (by kernel_rfl) rfl rfl rfl (fun ps1 => ⟨H1 (r_fa fd33_0), Hld 0 le_T_api_Schema_Fields ty24, Hl0 0 ty33, Hm, Hcl en149 (C_ref04_FieldOf hy1), Hix hk1 Try.underlying24 ty123, Hfp le_T_api_Field_Bits fd123_2, H1 (r_loadp ty3), trivial⟩) fun ps1 => ?_
 refine Qa ?_
 refine Qnx ?_
 refine Wp.ret ?_
 obtain rfl:=some_in h
 exact Qe1
theorem C_ref10_Covers {x0 : T_api_Match} {x1 : Int} {x2 : Int} {x3 : T_api_Value}  {r : Bool} (h : L_ref10_Covers x0 x1 x2 x3 = some r) : Meets Try.prog 87 [VP.of (x0), VP.of (x1), VP.of (x2), VP.of (x3)] (VP.of (r)) := by
 unfold L_ref10_Covers at h
 refine Meets.of Try.func87 rfl Try.ntmps87 rfl fun W A => ?_
 refine Qsr ?_
 refine Qbx fun p1 => ?_
 refine Qbx fun p2 => ?_
 refine Qa ?_
 refine Qns ?_
 refine Qsr ?_
 refine Q1 (r_fa fd104_0) ?_
 refine Qld 1 le_T_api_Match_Present ty4 ?_
 refine Q1 r_not ?_
 refine Qnx ?_
 refine Qcd h (fun h=>?_) fun h=>?_
 ·refine Qsr ?_
  refine Qm ?_
  refine Q2 r_geq ?_
  refine Qm ?_
  refine Qg1 r_move ?_
  refine Qg2 r_leq ?_
  refine Qan ?_
  refine Qa ?_
  refine Qnx ?_
  refine Wp.ret ?_
  refine To.ret ?_
  obtain rfl:=some_in h
  exact Qe1
 ·refine Qkn ?_
  refine Wp.seq ?_
  refine Qsr ?_
  refine Qm ?_
  refine Qnx ?_
  refine Wp.block ?_
  refine Qsr ?_
  refine Q2 r_eql ?_
  refine Qa ?_
  refine Qnx ?_
  refine Qcd h (fun h=>?_) fun h=>?_
  ·refine Qsr ?_
   refine Ql0 0 ty47 ?_
   refine Q1 (r_fa fd104_1) ?_
   refine Qld 1 le_T_api_Match_Value ty47 ?_
   refine Q2 (r_eqA eqv47 rfl eqg47 rfl) ?_
   refine Qa ?_
   refine Qnx ?_
   refine Wp.ret ?_
   refine To.bret ?_
   refine To.ret ?_
   obtain rfl:=some_in h
   exact Qe1
  ·refine Qsr ?_
   refine Q2 r_eql ?_
   refine Qa ?_
   refine Qnx ?_
   refine Qcd h (fun h=>?_) fun h=>?_
   ·refine Wp.seq ?_
    obtain ⟨y1,hy1,h⟩:=Qbs h
    obtain ⟨y2,hy2,h⟩:=Qbs h
    refine Wp.draw mixed 7 [some 30, some 31, some 32, some 33, some 34, some 9, some 10] [[], [0], [], [2], [3], [], []] [.val _, .val _, .val _, .val _, .val _, .new (.var (default : Vector Bool 128)), .new (.var (default : Vector Bool 128))] [false, false, false, false, false, false, false] (by kernel_rfl) rfl rfl rfl (fun ps1 => ⟨Hl0 0 ty47, Hcl en111 (C_ref01_Read hy1), H1 (r_fa fd104_1), Hld 1 le_T_api_Match_Value ty47, Hcl en111 (C_ref01_Read hy2), ao_alloc zr222, ao_alloc zr222, trivial⟩) fun ps1 => ?_
    refine Qs0 0 ty222 ?_
    refine Qs0 1 ty222 ?_
    refine Qns ?_
    refine Qsr ?_
    refine Qm ?_
    refine Q1 (r_fa fd104_3) ?_
    refine Qld 3 le_T_api_Match_Prefix ty3 ?_
    refine Q2 r_sub ?_
    refine Qa ?_
    refine Qnx ?_
    refine Wp.block ?_
    obtain ⟨e1,hl,h⟩:=Qbs h
    refine Qlp (γ:=Unit) (δ:=Unit) hl [0, 1, 2, 3, 4, 7, 8, 9, 10, 14, 21, 22, 28] (fun s1 g1 => [(11, VP.of (s1))]) (fun s1 g1 => []) (fun q1 => Sum.elim (fun q1 => Exit.exit 1) (fun q1 => Exit.ret) q1) (fun q1 g1 => Sum.elim (fun q1 => [(11, VP.of (q1.1)), (41, VP.of (q1.2))]) (fun q1 => [(11, VP.of (q1.1)), (41, VP.of (q1.2.1)), (58, VP.of (q1.2.2))]) q1) (fun q1 g1 => Sum.elim (fun q1 => []) (fun q1 => []) q1) () (fun s1 r h g1 => ?_) fun g1 => ?_
    ·clear hl
     refine Wp.seq ?_
     refine Qsr ?_
     refine Qm ?_
     refine Qm ?_
     refine Q2 r_lss ?_
     refine Qnx ?_
     refine Qcd h (fun h=>?_) fun h=>?_
     ·refine Qkn ?_
      refine Wp.seq ?_
      refine Wp.block ?_
      refine Wp.seq ?_
      obtain ⟨k1,hk1,h⟩:=Qbs h
      obtain ⟨k2,hk2,h⟩:=Qbs h
      obtain ⟨z1,hz1,h⟩:=Qbs h
      refine Wp.draw mixed 15 [some 44, some 45, some 46, some 47, some 48, some 49, some 50, some 51, some 52, some 53, some 54, some 55, some 56, some 57, some 58] [[], [0], [1], [2], [2, 3], [2, 4], [5], [6], [6, 7], [6, 8], [6], [6, 10], [6, 11], [6, 9, 12], [6, 13]] [.val _, .val _, .val _, .val _, .val _, .val _, .val _, .val _, .val _, .val _, .val _, .val _, .val _, .val _, .val _] [false, false, false, false, false, false, false, false, false, false, false, false, false, false, false] (by kernel_rfl) rfl rfl rfl (fun ps2 => ⟨Hm, H2 r_geq, Hm, Hg fun L' hL => fun hb => r_move (look_t rfl), Hg fun L' hL => fun hb => r_lss (look_tc rfl hb) (look_int 128), Hv fun L' hL => r_and (look_t rfl) (look_t rfl) (fun h => h), Hm, Hg fun L' hL => fun hb => r_move (look_t rfl), Hg fun L' hL => fun hb => r_ia (k := k1) ar222 (look_t rfl) (look_tc rfl hb) (idx_some (condM_some hk1 hb)), Hg fun L' hL => fun hb => r_load (i := 0) ((Lens.id (Vector Bool 128)).comp (Lens.idx (α := Bool) 128 k1 (idx_some (condM_some hk1 hb)).1)) (r := vget y1 k1) ty4 (look_tc rfl hb) (hL _ _ rfl rfl) rfl rfl, Hg fun L' hL => fun hb => r_move (look_t rfl), Hg fun L' hL => fun hb => r_ia (k := k2) ar222 (look_t rfl) (look_tc rfl hb) (idx_some (condM_some hk2 hb)), Hg fun L' hL => fun hb => r_load (i := 1) ((Lens.id (Vector Bool 128)).comp (Lens.idx (α := Bool) 128 k2 (idx_some (condM_some hk2 hb)).1)) (r := vget y2 k2) ty4 (look_tc rfl hb) (hL _ _ rfl rfl) rfl rfl, Hg fun L' hL => fun hb => r_bne Try.underlying4 (look_tc rfl hb) (look_tc rfl hb), Hn hz1 fun L' hL => r_and (look_t rfl) (look_t rfl) (fun h => h), trivial⟩) fun ps2 => ?_
      refine Qnx ?_
      refine Qcd h (fun h=>?_) fun h=>?_
      ·refine Qsr ?_
       refine Qa ?_
       refine Qnx ?_
       refine Wp.ret ?_
       refine To.bret ?_
       refine To.ret ?_
       obtain rfl:=some_in h
       exact Qlv () 0
      ·refine Wp.skip ?_
       refine To.bnorm ?_
       refine To.next ?_
       refine Wp.reg ?_
       refine Qm ?_
       refine Q2 r_add ?_
       refine Qa ?_
       refine Sq.nil ?_
       obtain rfl:=some_in h
       exact Qrd () 0
     ·refine Wp.exit ?_
      refine To.exit ?_
      obtain rfl:=some_in h
      exact Qlv () 0
    ·clear hl
     rcases e1 with e1 | e1
     ·simp only [Sum.elim_inl] at h
      refine To.bexit ?_
      refine To.next ?_
      refine Qsr ?_
      refine Qa ?_
      refine Qnx ?_
      refine Wp.ret ?_
      refine To.bret ?_
      refine To.ret ?_
      obtain rfl:=some_in h
      exact Qe1
     ·simp only [Sum.elim_inr] at h
      refine To.bret ?_
      refine To.ret ?_
      refine To.bret ?_
      refine To.ret ?_
      obtain rfl:=some_in h
      exact Qe1
   ·refine Qsr ?_
    refine Q2 r_eql ?_
    refine Qa ?_
    refine Qnx ?_
    refine Qcd h (fun h=>?_) fun h=>?_
    ·refine Wp.seq ?_
     obtain ⟨y3,hy3,h⟩:=Qbs h
     refine Wp.draw mixed 7 [some 61, some 62, some 63, some 64, some 65, some 66, some 67] [[], [], [1], [0, 2], [], [4], [3, 5]] [.val _, .val _, .val _, .val _, .val _, .val _, .val _] [false, false, false, false, false, false, false] (by kernel_rfl) rfl rfl rfl (fun ps3 => ⟨Hl0 0 ty47, H1 (r_fa fd104_2), Hld 1 le_T_api_Match_Mask ty47, Hcl en122 (C_ref01_And hy3), H1 (r_fa fd104_1), Hld 1 le_T_api_Match_Value ty47, H2 (r_eqA eqv47 rfl eqg47 rfl), trivial⟩) fun ps3 => ?_
     refine Qa ?_
     refine Qnx ?_
     refine Wp.ret ?_
     refine To.bret ?_
     refine To.ret ?_
     obtain rfl:=some_in h
     exact Qe1
    ·refine Qsr ?_
     refine Q2 r_eql ?_
     refine Qa ?_
     refine Qnx ?_
     refine Qcd h (fun h=>?_) fun h=>?_
     ·refine Qsr ?_
      refine Q1 (r_fa fd104_1) ?_
      refine Qld 1 le_T_api_Match_Value ty47 ?_
      refine Ql0 0 ty47 ?_
      obtain ⟨y4,hy4,h⟩:=Qbs h
      refine Qcl en73 (C_ref01_Compare hy4) ?_
      refine Q2 r_leq ?_
      refine Qm ?_
      refine Qg (fun hb => r_load (i := 0) (Lens.id T_api_Value) (r := x3) ty47 (look_t rfl) rfl rfl rfl) ?_
      refine Qg1 (r_fa fd104_4) ?_
      refine Qg (fun hb => r_load (i := 1) ((Lens.id T_api_Match).comp le_T_api_Match_High) (r := x0.f_High) ty47 (look_tc rfl hb) rfl rfl rfl) ?_
      obtain ⟨y5,hy5,h⟩:=Qbs h
      refine Qg (fun hb => r_call en73 (C_ref01_Compare (condM_some hy5 hb)) ⟨look_tc rfl hb, look_tc rfl hb, trivial⟩) ?_
      refine Qg2 r_leq ?_
      refine Qan ?_
      refine Qa ?_
      refine Qnx ?_
      refine Wp.ret ?_
      refine To.bret ?_
      refine To.ret ?_
      obtain rfl:=some_in h
      exact Qe1
     ·refine Wp.skip ?_
      refine To.bnorm ?_
      refine To.next ?_
      refine Qsr ?_
      refine Qa ?_
      refine Qnx ?_
      refine Wp.ret ?_
      obtain rfl:=some_in h
      exact Qe1
theorem C_ref10_match {x0 : T_api_Match} {x1 : T_api_Match}  {r : Int} (h : L_ref10_match x0 x1 = some r) : Meets Try.prog 181 [VP.of (x0), VP.of (x1)] (VP.of (r)) := by
 unfold L_ref10_match at h
 refine Meets.of Try.func181 rfl Try.ntmps181 rfl fun W A => ?_
 refine Qsr ?_
 refine Qbx fun p1 => ?_
 refine Qbx fun p2 => ?_
 refine Qa ?_
 refine Qns ?_
 refine Wp.block ?_
 refine Qsr ?_
 refine Q1 (r_fa fd104_0) ?_
 refine Qld 1 le_T_api_Match_Present ty4 ?_
 refine Q1 (r_fa fd104_0) ?_
 refine Qld 0 le_T_api_Match_Present ty4 ?_
 refine Q2 (r_bne Try.underlying4) ?_
 refine Qm ?_
 refine Qg1 (r_fa fd104_0) ?_
 refine Qg (fun hb => r_load (i := 0) ((Lens.id T_api_Match).comp le_T_api_Match_Present) (r := x1.f_Present) ty4 (look_tc rfl hb) rfl rfl rfl) ?_
 refine Qan ?_
 refine Qa ?_
 refine Qnx ?_
 refine Qcd h (fun h=>?_) fun h=>?_
 ·refine Qsr ?_
  refine Qa ?_
  refine Qnx ?_
  refine Wp.ret ?_
  refine To.bret ?_
  refine To.ret ?_
  obtain rfl:=some_in h
  exact Qe1
 ·refine Qsr ?_
  refine Q1 (r_fa fd104_0) ?_
  refine Qld 1 le_T_api_Match_Present ty4 ?_
  refine Q1 (r_fa fd104_0) ?_
  refine Qld 0 le_T_api_Match_Present ty4 ?_
  refine Q2 (r_bne Try.underlying4) ?_
  refine Qa ?_
  refine Qnx ?_
  refine Qcd h (fun h=>?_) fun h=>?_
  ·refine Qsr ?_
   refine Qa ?_
   refine Qnx ?_
   refine Wp.ret ?_
   refine To.bret ?_
   refine To.ret ?_
   obtain rfl:=some_in h
   exact Qe1
  ·refine Qsr ?_
   refine Q1 (r_fa fd104_1) ?_
   refine Qld 1 le_T_api_Match_Value ty47 ?_
   refine Q1 (r_fa fd104_1) ?_
   refine Qld 0 le_T_api_Match_Value ty47 ?_
   refine Q2 (r_neA eqv47 rfl eqg47 rfl) ?_
   refine Qa ?_
   refine Qnx ?_
   refine Qcd h (fun h=>?_) fun h=>?_
   ·refine Qsr ?_
    refine Q1 (r_fa fd104_1) ?_
    refine Qld 1 le_T_api_Match_Value ty47 ?_
    refine Q1 (r_fa fd104_1) ?_
    refine Qld 0 le_T_api_Match_Value ty47 ?_
    obtain ⟨y1,hy1,h⟩:=Qbs h
    refine Qcl en73 (C_ref01_Compare hy1) ?_
    refine Qa ?_
    refine Qnx ?_
    refine Wp.ret ?_
    refine To.bret ?_
    refine To.ret ?_
    obtain rfl:=some_in h
    exact Qe1
   ·refine Qsr ?_
    refine Q1 (r_fa fd104_2) ?_
    refine Qld 1 le_T_api_Match_Mask ty47 ?_
    refine Q1 (r_fa fd104_2) ?_
    refine Qld 0 le_T_api_Match_Mask ty47 ?_
    refine Q2 (r_neA eqv47 rfl eqg47 rfl) ?_
    refine Qa ?_
    refine Qnx ?_
    refine Qcd h (fun h=>?_) fun h=>?_
    ·refine Qsr ?_
     refine Q1 (r_fa fd104_2) ?_
     refine Qld 1 le_T_api_Match_Mask ty47 ?_
     refine Q1 (r_fa fd104_2) ?_
     refine Qld 0 le_T_api_Match_Mask ty47 ?_
     obtain ⟨y2,hy2,h⟩:=Qbs h
     refine Qcl en73 (C_ref01_Compare hy2) ?_
     refine Qa ?_
     refine Qnx ?_
     refine Wp.ret ?_
     refine To.bret ?_
     refine To.ret ?_
     obtain rfl:=some_in h
     exact Qe1
    ·refine Qsr ?_
     refine Q1 (r_fa fd104_3) ?_
     refine Qld 1 le_T_api_Match_Prefix ty3 ?_
     refine Q1 (r_fa fd104_3) ?_
     refine Qld 0 le_T_api_Match_Prefix ty3 ?_
     refine Q2 r_neq ?_
     refine Qa ?_
     refine Qnx ?_
     refine Qcd h (fun h=>?_) fun h=>?_
     ·refine Qsr ?_
      refine Q1 (r_fa fd104_3) ?_
      refine Qld 1 le_T_api_Match_Prefix ty3 ?_
      refine Q1 (r_fa fd104_3) ?_
      refine Qld 0 le_T_api_Match_Prefix ty3 ?_
      obtain ⟨y3,hy3,h⟩:=Qbs h
      refine Qcl en150 (C_ref10_number hy3) ?_
      refine Qa ?_
      refine Qnx ?_
      refine Wp.ret ?_
      refine To.bret ?_
      refine To.ret ?_
      obtain rfl:=some_in h
      exact Qe1
     ·refine Wp.skip ?_
      refine To.bnorm ?_
      refine To.next ?_
      refine Qsr ?_
      refine Q1 (r_fa fd104_4) ?_
      refine Qld 1 le_T_api_Match_High ty47 ?_
      refine Q1 (r_fa fd104_4) ?_
      refine Qld 0 le_T_api_Match_High ty47 ?_
      obtain ⟨y4,hy4,h⟩:=Qbs h
      refine Qcl en73 (C_ref01_Compare hy4) ?_
      refine Qa ?_
      refine Qnx ?_
      refine Wp.ret ?_
      obtain rfl:=some_in h
      exact Qe1
theorem C_ref10_values {x0 : List T_api_Value} {x1 : List T_api_Value}  {r : Int} (h : L_ref10_values x0 x1 = some r) : Meets Try.prog 152 [VP.of (x0), VP.of (x1)] (VP.of (r)) := by
 unfold L_ref10_values at h
 refine Meets.of Try.func152 rfl Try.ntmps152 rfl fun W A => ?_
 refine Qsr ?_
 refine Qa ?_
 refine Qns ?_
 refine Qsr ?_
 refine Qa ?_
 refine Qnx ?_
 refine Wp.block ?_
 obtain ⟨e1,hl,h⟩:=Qbs h
 refine Qlp (γ:=Unit) (δ:=Unit) hl [0, 1] (fun s1 g1 => [(4, VP.of (0 : Int)), (5, VP.of (s1))]) (fun s1 g1 => []) (fun q1 => Sum.elim (fun q1 => Exit.exit 0) (fun q1 => Exit.ret) q1) (fun q1 g1 => Sum.elim (fun q1 => [(4, VP.of (0 : Int)), (5, VP.of (q1.1)), (16, VP.of (q1.2))]) (fun q1 => [(4, VP.of (q1.1)), (5, VP.of (q1.2.1)), (6, VP.of (q1.2.2.1)), (16, VP.of (q1.2.2.2.1)), (29, VP.of (q1.2.2.2.2))]) q1) (fun q1 g1 => Sum.elim (fun q1 => []) (fun q1 => []) q1) () (fun s1 r h g1 => ?_) fun g1 => ?_
 ·clear hl
  refine Wp.seq ?_
  refine Qsr ?_
  refine Qm ?_
  refine Qm ?_
  refine Q1 (r_len Try.underlying72) ?_
  refine Q2 r_lss ?_
  refine Qm ?_
  refine Qg1 r_move ?_
  refine Qg1 r_move ?_
  refine Qg1 (r_len Try.underlying72) ?_
  refine Qg2 r_lss ?_
  refine Qan ?_
  refine Qnx ?_
  refine Qcd h (fun h=>?_) fun h=>?_
  ·refine Qkn ?_
   refine Wp.seq ?_
   refine Wp.block ?_
   refine Wp.seq ?_
   obtain ⟨k1,hk1,h⟩:=Qbs h
   obtain ⟨k2,hk2,h⟩:=Qbs h
   obtain ⟨y1,hy1,h⟩:=Qbs h
   refine Wp.draw mixed 9 [some 19, some 20, some 21, some 22, some 23, some 24, some 25, some 26, some 27] [[], [], [0, 1], [2], [], [], [4, 5], [6], [3, 7]] [.val _, .val _, .val _, .val _, .val _, .val _, .val _, .val _, .val _] [false, false, false, false, false, false, false, false, false] (by kernel_rfl) rfl rfl rfl (fun ps1 => ⟨Hm, Hm, Hix hk1 Try.underlying72 ty47, H1 (r_loadp ty47), Hm, Hm, Hix hk2 Try.underlying72 ty47, H1 (r_loadp ty47), Hcl en73 (C_ref01_Compare hy1), trivial⟩) fun ps1 => ?_
   refine Qa ?_
   refine Qnr ?_
   refine Qm ?_
   refine Q2 r_neq ?_
   refine Qnx ?_
   refine Qcd h (fun h=>?_) fun h=>?_
   ·refine Qsr ?_
    refine Qm ?_
    refine Qa ?_
    refine Qnx ?_
    refine Wp.ret ?_
    refine To.bret ?_
    refine To.ret ?_
    obtain rfl:=some_in h
    exact Qlv () 0
   ·refine Wp.skip ?_
    refine To.bnorm ?_
    refine To.next ?_
    refine Wp.reg ?_
    refine Qm ?_
    refine Q2 r_add ?_
    refine Qa ?_
    refine Sq.nil ?_
    obtain rfl:=some_in h
    exact Qrd () 0
  ·refine Wp.exit ?_
   refine To.exit ?_
   obtain rfl:=some_in h
   exact Qlv () 0
 ·clear hl
  rcases e1 with e1 | e1
  ·simp only [Sum.elim_inl] at h
   refine To.bexit ?_
   refine To.next ?_
   refine Qsr ?_
   refine Qm ?_
   refine Q1 (r_len Try.underlying72) ?_
   refine Qm ?_
   refine Q1 (r_len Try.underlying72) ?_
   obtain ⟨y2,hy2,h⟩:=Qbs h
   refine Qcl en150 (C_ref10_number hy2) ?_
   refine Qa ?_
   refine Qnx ?_
   refine Wp.ret ?_
   obtain rfl:=some_in h
   exact Qe1
  ·simp only [Sum.elim_inr] at h
   refine To.bret ?_
   refine To.ret ?_
   obtain rfl:=some_in h
   exact Qe1
end Go.Proofs.Ytodajdohokmjnaa

