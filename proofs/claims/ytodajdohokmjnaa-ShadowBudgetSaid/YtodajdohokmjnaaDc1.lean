/-
  Printed by the decompiler (dec.py) out of the seat's translation. Each function meets its functional program. Conditions: none.
-/
import Derived.Test.YtodajdohokmjnaaDc0
namespace Go.Proofs.Ytodajdohokmjnaa
open Go Gv
set_option linter.unusedVariables false
set_option linter.unusedSimpArgs false
set_option maxRecDepth 100000
set_option maxHeartbeats 2000000
theorem C_mcase_Codes_Next {x0 : T_mcase_Codes} {x1 : Int} {pp0 : Nat} {r : Int × T_mcase_Codes} (h : L_mcase_Codes_Next x0 x1 = some r) : MeetsO Try.prog 49 [VP.eq (.pointer (some ⟨pp0, 0, none⟩)), VP.of (x1)] [⟨some pp0, .var (x0 : T_mcase_Codes)⟩] (δ := Unit) (fun d => VP.of (r.1)) (fun d => [⟨some pp0, .var (r.2 : T_mcase_Codes)⟩]) := by
 unfold L_mcase_Codes_Next at h
 refine MeetsO.of Try.func49 rfl Try.ntmps49 rfl fun W A => ?_
 refine Qsr ?_
 refine Qa ?_
 refine Qns ?_
 refine Qsr ?_
 refine Qm ?_
 refine Sq.bring 0 rfl ?_
 obtain ⟨y1,hy1,h⟩:=Qbs h
 refine QcO 1 en76 (C_mcase_Codes_Left hy1) fun q1 => ?_
 refine Q1 r_not ?_
 refine Qm ?_
 refine Qg1 r_move ?_
 refine Qg2 r_lss ?_
 refine Qor ?_
 refine Qnx ?_
 refine Qcd h (fun h=>?_) fun h=>?_
 ·refine Qsr ?_
  refine Qa ?_
  refine Qnx ?_
  refine Wp.ret ?_
  refine To.ret ?_
  refine To.bring 0 rfl ?_
  obtain rfl:=some_in h
  exact Qo1 ()
 ·refine Qkn ?_
  refine Qsr ?_
  refine Qm ?_
  refine Q1 r_nck ?_
  refine Q1 (r_fa fd120_1) ?_
  refine Qld 0 le_T_mcase_Codes_at ty3 ?_
  refine Q2 r_add ?_
  refine Q1 r_nck ?_
  refine Q1 (r_fa fd120_1) ?_
  refine Qst 0 le_T_mcase_Codes_at ty3 ?_
  refine Qns ?_
  obtain ⟨k1,hk1,h⟩:=Qbs h
  obtain ⟨y2,hy2,h⟩:=Qbs h
  refine Wp.draw mixed 14 [some 19, some 20, some 21, some 22, some 23, some 24, some 25, some 26, some 27, some 28, some 29, some 30, some 31, some 32] [[], [0], [1], [2], [], [4], [5], [6], [7], [3, 8], [9], [10], [], [11, 12]] [.val _, .val _, .val _, .val _, .val _, .val _, .val _, .val _, .val _, .val _, .val _, .val _, .val _, .val _] [false, false, false, false, false, false, false, false, false, false, false, false, false, false] (by kernel_rfl) rfl rfl rfl (fun ps1 => ⟨Hm, H1 r_nck, H1 (r_fa fd120_0), Hld 0 le_T_mcase_Codes_l ty22, Hm, H1 r_nck, H1 (r_fa fd120_1), Hld 0 le_T_mcase_Codes_at ty3, H2 r_sub, Hix hk1 Try.underlying22 ty5, H1 (r_loadp ty5), H1 (r_c8i Try.underlying5 Try.underlying3), Hm, Hv fun L' hL => r_rem (look_t rfl) (look_t rfl) (modM_some hy2), trivial⟩) fun ps1 => ?_
  refine Qa ?_
  refine Qnx ?_
  refine Wp.ret ?_
  refine To.bring 0 rfl ?_
  obtain rfl:=some_in h
  exact Qo1 ()
theorem C_check_TableOf {x0 : T_api_Schema} {x1 : Int}  {r : Int} (h : L_check_TableOf x0 x1 = some r) : Meets Try.prog 126 [VP.of (x0), VP.of (x1)] (VP.of (r)) := by
 unfold L_check_TableOf at h
 refine Meets.of Try.func126 rfl Try.ntmps126 rfl fun W A => ?_
 refine Qsr ?_
 refine Qbx fun p1 => ?_
 refine Qbx fun p2 => ?_
 refine Qa ?_
 refine Qnr ?_
 refine Q1 (r_fa fd33_4) ?_
 refine Qld 1 le_T_api_Schema_Tables ty28 ?_
 refine Sq.share (α := Int) 0 3 rfl rfl ?_
 refine Qv (r_clo1 (F := (fun a0 => L_check_TableOf_fn1 a0 x1)) (τs := [VP.ptr x1]) en154 ⟨look_t rfl, trivial⟩ (fun _ _ h => C_check_TableOf_fn1 h)) ?_
 obtain ⟨y1,hy1,h⟩:=Qbs h
 refine Qcl en153 (C_slices_IndexFunc_api_Table hy1) ?_
 refine Qa ?_
 refine Qnx ?_
 refine Wp.ret ?_
 obtain rfl:=some_in h
 exact Qe1
theorem C_slices_ContainsFunc_api_Key {x0 : List T_api_Key} {x1 : T_api_Key → Option Bool}  {r : Bool} (h : L_slices_ContainsFunc_api_Key x0 x1 = some r) : Meets Try.prog 127 [VP.of (x0), VP.fn1 Try.prog x1] (VP.of (r)) := by
 unfold L_slices_ContainsFunc_api_Key at h
 refine Meets.of Try.func127 rfl Try.ntmps127 rfl fun W A => ?_
 refine Qsr ?_
 refine Qa ?_
 refine Qnr ?_
 refine Qm ?_
 refine Qm ?_
 obtain ⟨y1,hy1,h⟩:=Qbs h
 refine Qcl en155 (C_slices_IndexFunc_api_Key hy1) ?_
 refine Q2 r_geq ?_
 refine Qa ?_
 refine Qnx ?_
 refine Wp.ret ?_
 obtain rfl:=some_in h
 exact Qe1
theorem C_check_FieldOf {x0 : T_api_Schema} {x1 : Int}  {r : Int} (h : L_check_FieldOf x0 x1 = some r) : Meets Try.prog 156 [VP.of (x0), VP.of (x1)] (VP.of (r)) := by
 unfold L_check_FieldOf at h
 refine Meets.of Try.func156 rfl Try.ntmps156 rfl fun W A => ?_
 refine Qsr ?_
 refine Qbx fun p1 => ?_
 refine Qbx fun p2 => ?_
 refine Qa ?_
 refine Qnr ?_
 refine Q1 (r_fa fd33_0) ?_
 refine Qld 1 le_T_api_Schema_Fields ty24 ?_
 refine Sq.share (α := Int) 0 3 rfl rfl ?_
 refine Qv (r_clo1 (F := (fun a0 => L_check_FieldOf_fn1 a0 x1)) (τs := [VP.ptr x1]) en183 ⟨look_t rfl, trivial⟩ (fun _ _ h => C_check_FieldOf_fn1 h)) ?_
 obtain ⟨y1,hy1,h⟩:=Qbs h
 refine Qcl en182 (C_slices_IndexFunc_api_Field hy1) ?_
 refine Qa ?_
 refine Qnx ?_
 refine Wp.ret ?_
 obtain rfl:=some_in h
 exact Qe1
theorem C_value_Ones {x0 : Int}  {r : T_api_Value} (h : L_value_Ones x0 = some r) : Meets Try.prog 184 [VP.of (x0)] (VP.of (r)) := by
 unfold L_value_Ones at h
 refine Meets.of Try.func184 rfl Try.ntmps184 rfl fun W A => ?_
 refine Qsr ?_
 refine Qal zr47 fun p1 => ?_
 refine Qnr ?_
 obtain ⟨z1,hz1,h⟩:=Qbs h
 refine Qn hz1 (r_build (b := { f_Hi := 18446744073709551615#64, f_Lo := 18446744073709551615#64 : T_api_Value }) rfl bu47 zr47 (.cons le_T_api_Value_Hi rfl (look_u64 18446744073709551615 rfl) rfl (.cons le_T_api_Value_Lo rfl (look_u64 18446744073709551615 rfl) rfl (.nil)))) ?_
 refine Qm ?_
 obtain ⟨y1,hy1,h⟩:=Qbs h
 refine Qcl en193 (C_value_within hy1) ?_
 refine Q2 r_sub ?_
 obtain ⟨y2,hy2,h⟩:=Qbs h
 refine Qcl en194 (C_value_Right hy2) ?_
 refine Qs0 0 ty47 ?_
 refine Qnx ?_
 refine Wp.ret ?_
 obtain rfl:=some_in h
 exact To.end1 rfl (Qrc 0 ty47)
theorem C_cmp_Compare_int {x0 : Int} {x1 : Int}  {r : Int} (h : L_cmp_Compare_int x0 x1 = some r) : Meets Try.prog 145 [VP.of (x0), VP.of (x1)] (VP.of (r)) := by
 unfold L_cmp_Compare_int at h
 refine Meets.of Try.func145 rfl Try.ntmps145 rfl fun W A => ?_
 refine Qsr ?_
 refine Qa ?_
 refine Qnr ?_
 refine Qm ?_
 obtain ⟨y1,hy1,h⟩:=Qbs h
 refine Qcl en178 (C_cmp_isNaN_int hy1) ?_
 refine Qa ?_
 refine Qnr ?_
 refine Qm ?_
 obtain ⟨y2,hy2,h⟩:=Qbs h
 refine Qcl en178 (C_cmp_isNaN_int hy2) ?_
 refine Qa ?_
 refine Qns ?_
 refine Qsr ?_
 refine Qm ?_
 refine Qnx ?_
 refine Qcd h (fun h=>?_) fun h=>?_
 ·refine Wp.seq ?_
  refine Qsr ?_
  refine Qm ?_
  refine Qnx ?_
  refine Qcd h (fun h=>?_) fun h=>?_
  ·refine Qsr ?_
   refine Qa ?_
   refine Qnx ?_
   refine Wp.ret ?_
   refine To.ret ?_
   refine To.ret ?_
   obtain rfl:=some_in h
   exact Qe1
  ·refine Qkn ?_
   refine Qsr ?_
   refine Qa ?_
   refine Qnx ?_
   refine Wp.ret ?_
   refine To.ret ?_
   obtain rfl:=some_in h
   exact Qe1
 ·refine Qkn ?_
  refine Wp.seq ?_
  refine Qsr ?_
  refine Qm ?_
  refine Qnx ?_
  refine Qcd h (fun h=>?_) fun h=>?_
  ·refine Qsr ?_
   refine Qa ?_
   refine Qnx ?_
   refine Wp.ret ?_
   refine To.ret ?_
   obtain rfl:=some_in h
   exact Qe1
  ·refine Qkn ?_
   refine Wp.seq ?_
   refine Qsr ?_
   refine Qm ?_
   refine Qm ?_
   refine Q2 r_lss ?_
   refine Qnx ?_
   refine Qcd h (fun h=>?_) fun h=>?_
   ·refine Qsr ?_
    refine Qa ?_
    refine Qnx ?_
    refine Wp.ret ?_
    refine To.ret ?_
    obtain rfl:=some_in h
    exact Qe1
   ·refine Qkn ?_
    refine Wp.seq ?_
    refine Qsr ?_
    refine Qm ?_
    refine Qm ?_
    refine Q2 r_gtr ?_
    refine Qnx ?_
    refine Qcd h (fun h=>?_) fun h=>?_
    ·refine Qsr ?_
     refine Qa ?_
     refine Qnx ?_
     refine Wp.ret ?_
     refine To.ret ?_
     obtain rfl:=some_in h
     exact Qe1
    ·refine Qkn ?_
     refine Qsr ?_
     refine Qa ?_
     refine Qnx ?_
     refine Wp.ret ?_
     obtain rfl:=some_in h
     exact Qe1
theorem C_cube_Meet {x0 : T_cube_Cube} {x1 : T_cube_Cube}  {r : T_cube_Cube × Bool} (h : L_cube_Meet x0 x1 = some r) : Meets Try.prog 163 [VP.of (x0), VP.of (x1)] (VP.tup [VP.of (r.1), VP.of (r.2)]) := by
 unfold L_cube_Meet at h
 refine Meets.of Try.func163 rfl Try.ntmps163 rfl fun W A => ?_
 refine Qsr ?_
 refine Qbx fun p1 => ?_
 refine Qbx fun p2 => ?_
 refine Qal zr185 fun p3 => ?_
 refine Qa ?_
 refine Qnr ?_
 refine Q1 (r_fa fd185_1) ?_
 refine Qld 2 le_T_cube_Cube_Mask ty81 ?_
 refine Q1 (r_fa fd185_1) ?_
 refine Qld 1 le_T_cube_Cube_Mask ty81 ?_
 obtain ⟨y1,hy1,h⟩:=Qbs h
 refine Qv (r_call en186 (C_cube_combined hy1) ⟨look_t rfl, look_t rfl, look_fn2 en158 (fun _ _ _ => C_value_And), trivial⟩) ?_
 refine Qal zr81 fun p4 => ?_
 refine Qs0 0 ty81 ?_
 refine Qns ?_
 refine Wp.seq ?_
 obtain ⟨y2,hy2,h⟩:=Qbs h
 obtain ⟨y3,hy3,h⟩:=Qbs h
 refine Wp.draw mixed 9 [some 12, some 13, some 14, some 15, some 16, some 17, some 18, some 19, some 20] [[], [0], [], [2], [1, 3], [], [4, 5], [], [6, 7]] [.val _, .val _, .val _, .val _, .val _, .val _, .val _, .val _, .val _] [false, false, false, false, false, false, false, false, false] (by kernel_rfl) rfl rfl rfl (fun ps1 => ⟨H1 (r_fa fd185_0), Hld 3 le_T_cube_Cube_Value ty81, H1 (r_fa fd185_0), Hld 2 le_T_cube_Cube_Value ty81, Hv fun L' hL => r_call en186 (C_cube_combined hy2) ⟨look_t rfl, look_t rfl, look_fn2 en187 (fun _ _ _ => C_value_Xor), trivial⟩, Hl0 0 ty81, Hv fun L' hL => r_call en186 (C_cube_combined hy3) ⟨look_t rfl, look_t rfl, look_fn2 en158 (fun _ _ _ => C_value_And), trivial⟩, Hv fun L' hL => r_buildA (b := (default : Vector T_api_Value 4)) (sz := 2) rfl Try.underlying81 (by kernel_rfl) zr81 (.nil), H2 (r_neA eqv81 rfl eqg81 rfl), trivial⟩) fun ps1 => ?_
 refine Qnx ?_
 refine Qcd h (fun h=>?_) fun h=>?_
 ·refine Qsr ?_
  refine Qbd bu185 zr185 (default : T_cube_Cube) .nil ?_
  refine Qs0 1 ty185 ?_
  refine Qa ?_
  refine Qnx ?_
  refine Wp.ret ?_
  refine To.ret ?_
  obtain rfl:=some_in h
  exact To.end2 rfl (Qrc 1 ty185) (rv_t rfl)
 ·refine Qkn ?_
  refine Wp.seq ?_
  obtain ⟨y4,hy4,h⟩:=Qbs h
  obtain ⟨y5,hy5,h⟩:=Qbs h
  refine Wp.draw mixed 11 [some 22, some 23, some 24, some 25, some 26, some 27, some 28, some 29, some 30, some 31, some 32] [[], [0], [], [2], [1, 3], [], [5], [], [7], [6, 8], [4, 9]] [.val _, .val _, .val _, .val _, .val _, .val _, .val _, .val _, .val _, .val _, .val _] [false, false, false, false, false, false, false, false, false, false, false] (by kernel_rfl) rfl rfl rfl (fun ps2 => ⟨H1 (r_fa fd185_0), Hld 3 le_T_cube_Cube_Value ty81, H1 (r_fa fd185_0), Hld 2 le_T_cube_Cube_Value ty81, Hv fun L' hL => r_call en186 (C_cube_combined hy4) ⟨look_t rfl, look_t rfl, look_fn2 en174 (fun _ _ _ => C_value_Or), trivial⟩, H1 (r_fa fd185_1), Hld 3 le_T_cube_Cube_Mask ty81, H1 (r_fa fd185_1), Hld 2 le_T_cube_Cube_Mask ty81, Hv fun L' hL => r_call en186 (C_cube_combined hy5) ⟨look_t rfl, look_t rfl, look_fn2 en174 (fun _ _ _ => C_value_Or), trivial⟩, Hv fun L' hL => r_build (b := { f_Value := y4, f_Mask := y5 : T_cube_Cube }) rfl bu185 zr185 (.cons le_T_cube_Cube_Value rfl (look_t rfl) rfl (.cons le_T_cube_Cube_Mask rfl (look_t rfl) rfl (.nil))), trivial⟩) fun ps2 => ?_
  refine Qs0 1 ty185 ?_
  refine Qa ?_
  refine Qnx ?_
  refine Wp.ret ?_
  obtain rfl:=some_in h
  exact To.end2 rfl (Qrc 1 ty185) (rv_t rfl)
theorem Cp0_slices_DeleteFunc_cube_Cube {x0 : List T_cube_Cube} {x1 : T_cube_Cube → Option Bool} {key00 : Option Nat} {cap00 : Nat} {r : (List T_cube_Cube)} (h : Lp0_slices_DeleteFunc_cube_Cube x0 x1 = some r) : MeetsO Try.prog 160 [VP.eq (slv key00 x0.length cap00), VP.fn1 Try.prog x1] [⟨key00, .row 185 (x0 : List T_cube_Cube) cap00⟩] (δ := Unit) (fun d => VP.of (r)) (fun d => []) := by
 unfold Lp0_slices_DeleteFunc_cube_Cube at h
 refine MeetsO.of Try.func160 rfl Try.ntmps160 rfl fun W A => ?_
 refine Qsr ?_
 refine Qv (r_asg (look_nil (α := T_cube_Cube))) ?_
 refine Qnr ?_
 refine Qm ?_
 refine Qm ?_
 obtain ⟨y1,hy1,h⟩:=Qbs h
 refine Qv (HR.lend (α := T_cube_Cube) 0 8 rfl rfl flat_int (r_call en185 (C_slices_IndexFunc_cube_Cube hy1) ⟨look_t rfl, look_t rfl, trivial⟩)) ?_
 refine Qa ?_
 refine Qns ?_
 refine Qsr ?_
 refine Qm ?_
 refine Q2 r_eql ?_
 refine Qnx ?_
 refine Qcd h (fun h=>?_) fun h=>?_
 ·refine Qsr ?_
  refine Qm ?_
  refine Qa ?_
  refine Qnx ?_
  refine Wp.ret ?_
  refine To.ret ?_
  refine To.freezeL (α := T_cube_Cube) 0 [4, 0, 8, 13] ⟨rfl, rfl, rfl, rfl, trivial⟩ rfl ?_
  obtain rfl:=some_in h
  exact Qo1 ()
 ·refine Qkn ?_
  refine Wp.seq ?_
  refine Qsr ?_
  refine Qm ?_
  refine Q2 r_add ?_
  refine Qa ?_
  refine Qnx ?_
  refine Wp.block ?_
  obtain ⟨e1,hl,h⟩:=Qbs h
  refine Qlp (γ:=(Option Nat × Nat)) (δ:=(Option Nat × Nat)) hl [1, 4, 12] (fun s1 g1 => [(0, VP.eq (slv g1.1 s1.2.2.length g1.2)), (5, VP.of (s1.1)), (6, VP.of (s1.2.1))]) (fun s1 g1 => [(0, ⟨g1.1, .row 185 (s1.2.2 : List T_cube_Cube) g1.2⟩)]) (fun q1 => Exit.exit 0) (fun q1 g1 => [(0, VP.eq (slv g1.1 q1.2.2.2.length g1.2)), (5, VP.of (q1.1)), (6, VP.of (q1.2.1)), (19, VP.of (q1.2.2.1))]) (fun q1 g1 => [(0, ⟨g1.1, .row 185 (q1.2.2.2 : List T_cube_Cube) g1.2⟩)]) (key00, cap00) (fun s1 r h g1 => ?_) fun g1 => ?_
  ·clear hl
   refine Wp.seq ?_
   refine Qsr ?_
   refine Qm ?_
   refine Qm ?_
   refine Qv (r_lenO (i := 0) Try.underlying186 (look_t rfl) rfl rfl) ?_
   refine Q2 r_lss ?_
   refine Qnx ?_
   refine Qcd h (fun h=>?_) fun h=>?_
   ·refine Qkn ?_
    refine Wp.seq ?_
    refine Wp.block ?_
    refine Qsr ?_
    refine Qm ?_
    refine Qm ?_
    obtain ⟨k1,hk1,h⟩:=Qbs h
    refine Qv (r_iaO (i := 0) (k := k1) (xs := (s1.2.2 : List T_cube_Cube)) Try.underlying186 ty185 (look_t rfl) (look_t rfl) rfl (idx_some hk1)) ?_
    refine Qv (r_loadR (i := 0) (k := k1) (Lens.id T_cube_Cube) (r := (lget s1.2.2 k1)) ty185 (look_t rfl) rfl (idx_some hk1).1 rfl rfl) ?_
    refine Qal zr185 fun p1 => ?_
    refine Qs0 0 ty185 ?_
    refine Qnr ?_
    refine Qm ?_
    refine Ql0 0 ty185 ?_
    obtain ⟨y2,hy2,h⟩:=Qbs h
    refine Qv (r_callF1 (look_t rfl) (look_t rfl) hy2) ?_
    refine Q1 r_not ?_
    refine Qnx ?_
    obtain ⟨m1,hm1,h⟩:=Qbs h
    refine Qcm (γ:=(Option Nat × Nat)) [1, 4, 6, 7, 12, 19, 29] (fun g2 => [(0, VP.eq (slv g2.1 m1.2.length g2.2)), (5, VP.of (m1.1))]) (fun g2 => [(1, ⟨g2.1, .row 185 (m1.2 : List T_cube_Cube) g2.2⟩)]) (fun g2 => ?_) (fun hm hc => ?_) fun hm hc => ?_
    ·clear hm1
     refine To.bnorm ?_
     refine To.next ?_
     refine Wp.reg ?_
     refine Qm ?_
     refine Q2 r_add ?_
     refine Qa ?_
     refine Sq.nil ?_
     obtain rfl:=some_in h
     exact Qrd (g2.1, g2.2) 1
    ·have h := cond_t hc hm1
     refine Qsr ?_
     refine Qm ?_
     refine Qm ?_
     refine Ql0 0 ty185 ?_
     obtain ⟨k2,hk2,h⟩:=Qbs h
     refine Qv (r_iaO (i := 1) (k := k2) (xs := (s1.2.2 : List T_cube_Cube)) Try.underlying186 ty185 (look_t rfl) (look_t rfl) rfl (idx_some hk2)) ?_
     refine Sq.storeR (i := 1) (k := k2) (Lens.id T_cube_Cube) (v := ((lget s1.2.2 k1) : T_cube_Cube)) (r := (lset s1.2.2 k2 (lget s1.2.2 k1) : List T_cube_Cube)) ty185 (look_t rfl) (look_t rfl) rfl (idx_some hk2).1 rfl rfl ?_
     refine Sq.relen (m := (lset s1.2.2 k2 (lget s1.2.2 k1)).length) 0 rfl (lset_len rfl) ?_
     refine Sq.relen (m := (lset s1.2.2 k2 (lget s1.2.2 k1)).length) 17 rfl (lset_len rfl) ?_
     refine Sq.relen (m := (lset s1.2.2 k2 (lget s1.2.2 k1)).length) 22 rfl (lset_len rfl) ?_
     refine Sq.relen (m := (lset s1.2.2 k2 (lget s1.2.2 k1)).length) 30 rfl (lset_len rfl) ?_
     refine Qnx ?_
     refine Wp.reg ?_
     refine Qm ?_
     refine Q2 r_add ?_
     refine Qa ?_
     refine Sq.nil ?_
     obtain rfl:=some_in h
     exact Qmt 0 (hm (g1.1, g1.2))
    ·have h := cond_f hc hm1
     refine Wp.skip ?_
     obtain rfl:=some_in h
     exact Qmt 0 (hm (g1.1, g1.2))
   ·refine Wp.exit ?_
    refine To.exit ?_
    obtain rfl:=some_in h
    exact Qlv (g1.1, g1.2) 0
  ·clear hl
   refine To.bexit ?_
   refine To.next ?_
   refine Qsr ?_
   refine Qm ?_
   refine Qm ?_
   obtain ⟨y3,hy3,h⟩:=Qbs h
   refine Qv (r_sliceO (i := 0) (xs := (e1.2.2.2 : List T_cube_Cube)) (m := y3.1) (n := y3.2) Try.underlying186 ty185 (look_t rfl) rfl (.some (look_t rfl)) .none (cutM_some hy3).1 (cutM_some hy3).2.1 (cutM_some hy3).2.2) ?_
   obtain ⟨z1,hz1,h⟩:=Qbs h
   refine Sq.clear (i := 0) (r := z1) Try.underlying186 ty185 zr185 rfl (look_t rfl) rfl (by have := (cutM_some hy3).2.2; omega) (some_in hz1) ?_
   refine Sq.relen (m := z1.length) 0 rfl (lclear_len (by have := (cutM_some hy3).2.2; omega) (some_in hz1)) ?_
   refine Sq.relen (m := z1.length) 36 rfl (lclear_len (by have := (cutM_some hy3).2.2; omega) (some_in hz1)) ?_
   refine Qnr ?_
   refine Qm ?_
   refine Qm ?_
   obtain ⟨k3,hk3,h⟩:=Qbs h
   refine Qv (r_sliceO (i := 0) (xs := (z1 : List T_cube_Cube)) (m := 0) (n := k3) Try.underlying186 ty185 (look_t rfl) rfl .none (.some (look_t rfl)) rfl (idx_some hk3).2 ⟨Nat.zero_le _, Nat.le_of_lt_succ (idx_some hk3).1⟩) ?_
   obtain ⟨z2,hz2,h⟩:=Qbs h
   refine Sq.trunc (i := 0) (n := k3) (xs := (z1 : List T_cube_Cube)) (r := z2) 41 rfl rfl (Nat.le_of_lt_succ (idx_some hk3).1) (some_in hz2) ?_
   refine Qa ?_
   refine Qnx ?_
   refine Wp.ret ?_
   refine To.freezeL (α := T_cube_Cube) 0 [4, 41] ⟨rfl, rfl, trivial⟩ rfl ?_
   obtain rfl:=some_in h
   exact Qo1 ()
theorem C_slices_ContainsFunc_cube_Cube {x0 : List T_cube_Cube} {x1 : T_cube_Cube → Option Bool}  {r : Bool} (h : L_slices_ContainsFunc_cube_Cube x0 x1 = some r) : Meets Try.prog 164 [VP.of (x0), VP.fn1 Try.prog x1] (VP.of (r)) := by
 unfold L_slices_ContainsFunc_cube_Cube at h
 refine Meets.of Try.func164 rfl Try.ntmps164 rfl fun W A => ?_
 refine Qsr ?_
 refine Qa ?_
 refine Qnr ?_
 refine Qm ?_
 refine Qm ?_
 obtain ⟨y1,hy1,h⟩:=Qbs h
 refine Qcl en185 (C_slices_IndexFunc_cube_Cube hy1) ?_
 refine Q2 r_geq ?_
 refine Qa ?_
 refine Qnx ?_
 refine Wp.ret ?_
 obtain rfl:=some_in h
 exact Qe1
theorem C_cover_escape {x0 : T_cube_Cube} {x1 : Vector T_api_Value 4} {x2 : Vector T_api_Value 4}  {r : T_cube_Cube} (h : L_cover_escape x0 x1 x2 = some r) : Meets Try.prog 168 [VP.of (x0), VP.of (x1), VP.of (x2)] (VP.of (r)) := by
 unfold L_cover_escape at h
 refine Meets.of Try.func168 rfl Try.ntmps168 rfl fun W A => ?_
 refine Qsr ?_
 refine Qbx fun p1 => ?_
 refine Qbx fun p2 => ?_
 refine Qbx fun p3 => ?_
 refine Qal zr185 fun p4 => ?_
 refine Qns ?_
 refine Qsr ?_
 refine Qm ?_
 refine Qnx ?_
 refine Wp.block ?_
 obtain ⟨e1,hl,h⟩:=Qbs h
 refine Qlp (γ:=Unit) (δ:=Unit) hl [0, 1, 2, 3, 4, 5, 6] (fun s1 g1 => [(9, VP.of (s1.1))]) (fun s1 g1 => [(3, ⟨some p1, .var (s1.2 : T_cube_Cube)⟩)]) (fun q1 => Exit.exit 0) (fun q1 g1 => [(9, VP.of (q1.1)), (10, VP.of (q1.2.1))]) (fun q1 g1 => [(3, ⟨some p1, .var (q1.2.2 : T_cube_Cube)⟩)]) () (fun s1 r h g1 => ?_) fun g1 => ?_
 ·clear hl
  refine Qsr ?_
  refine Q2 r_lss ?_
  refine Qns ?_
  refine Qcd h (fun h=>?_) fun h=>?_
  ·refine Qkn ?_
   refine Wp.seq ?_
   refine Wp.block ?_
   refine Qsr ?_
   refine Qm ?_
   refine Qa ?_
   refine Qns ?_
   obtain ⟨k1,hk1,h⟩:=Qbs h
   obtain ⟨k2,hk2,h⟩:=Qbs h
   obtain ⟨y1,hy1,h⟩:=Qbs h
   refine Wp.draw mixed 8 [some 12, some 13, some 14, some 15, some 16, some 17, some 18, some 8] [[], [0], [1], [], [3], [4], [2, 5], []] [.val _, .val _, .val _, .val _, .val _, .val _, .val _, .new (.var (default : T_api_Value))] [false, false, false, false, false, false, false, false] (by kernel_rfl) rfl rfl rfl (fun ps1 => ⟨Hm, Hv fun L' hL => r_ia (k := k1) ar81 (look_t rfl) (look_t rfl) (idx_some hk1), Hld 2 ((Lens.id (Vector T_api_Value 4)).comp (Lens.idx (α := T_api_Value) 4 k1 (idx_some hk1).1)) ty47, Hm, Hv fun L' hL => r_ia (k := k2) ar81 (look_t rfl) (look_t rfl) (idx_some hk2), Hld 1 ((Lens.id (Vector T_api_Value 4)).comp (Lens.idx (α := T_api_Value) 4 k2 (idx_some hk2).1)) ty47, Hcl en158 (C_value_And hy1), ao_alloc zr47, trivial⟩) fun ps1 => ?_
   refine Qs0 0 ty47 ?_
   refine Qns ?_
   obtain ⟨k3,hk3,h⟩:=Qbs h
   obtain ⟨k4,hk4,h⟩:=Qbs h
   obtain ⟨k5,hk5,h⟩:=Qbs h
   obtain ⟨y2,hy2,h⟩:=Qbs h
   obtain ⟨y3,hy3,h⟩:=Qbs h
   obtain ⟨y4,hy4,h⟩:=Qbs h
   obtain ⟨k6,hk6,h⟩:=Qbs h
   refine Wp.draw mixed 17 ((some 19) :: (some 20) :: (some 21) :: (some 22) :: (some 23) :: (some 24) :: (some 25) :: (some 26) :: (some 27) :: (some 28) :: (some 29) :: (some 30) :: (some 31) :: (some 32) :: (some 33) :: (some 34) :: (some 35) :: []) ([] :: [] :: [] :: [1, 2] :: [3] :: [] :: [5] :: [6] :: [] :: [8] :: [9] :: [7, 10] :: [] :: [11, 12] :: [4, 13] :: [] :: [0, 15] :: []) (.val _ :: .val _ :: .val _ :: .val _ :: .val _ :: .val _ :: .val _ :: .val _ :: .val _ :: .val _ :: .val _ :: .val _ :: .val _ :: .val _ :: .val _ :: .val _ :: .val _ :: []) (false :: false :: false :: false :: false :: false :: false :: false :: false :: false :: false :: false :: false :: false :: false :: false :: false :: []) (by kernel_rfl) rfl rfl rfl (fun ps2 => ⟨Hm, Hm, H1 (r_fa fd185_1), Hv fun L' hL => r_ia (k := k3) ar81 (look_t rfl) (look_t rfl) (idx_some hk3), Hld 4 (((Lens.id T_cube_Cube).comp le_T_cube_Cube_Mask).comp (Lens.idx (α := T_api_Value) 4 k3 (idx_some hk3).1)) ty47, Hm, Hv fun L' hL => r_ia (k := k4) ar81 (look_t rfl) (look_t rfl) (idx_some hk4), Hld 3 ((Lens.id (Vector T_api_Value 4)).comp (Lens.idx (α := T_api_Value) 4 k4 (idx_some hk4).1)) ty47, Hm, Hv fun L' hL => r_ia (k := k5) ar81 (look_t rfl) (look_t rfl) (idx_some hk5), Hld 2 ((Lens.id (Vector T_api_Value 4)).comp (Lens.idx (α := T_api_Value) 4 k5 (idx_some hk5).1)) ty47, Hcl en174 (C_value_Or hy2), Hl0 0 ty47, Hcl en187 (C_value_Xor hy3), Hcl en174 (C_value_Or hy4), H1 (r_fa fd185_1), Hv fun L' hL => r_ia (k := k6) ar81 (look_t rfl) (look_t rfl) (idx_some hk6), trivial⟩) fun ps2 => ?_
   refine Qst 4 (((Lens.id T_cube_Cube).comp le_T_cube_Cube_Mask).comp (Lens.idx (α := T_api_Value) 4 k6 (idx_some hk6).1)) ty47 ?_
   refine Qnx ?_
   obtain ⟨k7,hk7,h⟩:=Qbs h
   obtain ⟨k8,hk8,h⟩:=Qbs h
   obtain ⟨y5,hy5,h⟩:=Qbs h
   obtain ⟨y6,hy6,h⟩:=Qbs h
   obtain ⟨k9,hk9,h⟩:=Qbs h
   refine Wp.draw mixed 13 [some 36, some 37, some 38, some 39, some 40, some 41, some 42, some 43, some 44, some 45, some 46, some 47, some 48] [[], [], [], [1, 2], [3], [], [5], [6], [], [7, 8], [4, 9], [], [0, 11]] [.val _, .val _, .val _, .val _, .val _, .val _, .val _, .val _, .val _, .val _, .val _, .val _, .val _] [false, false, false, false, false, false, false, false, false, false, false, false, false] (by kernel_rfl) rfl rfl rfl (fun ps3 => ⟨Hm, Hm, H1 (r_fa fd185_0), Hv fun L' hL => r_ia (k := k7) ar81 (look_t rfl) (look_t rfl) (idx_some hk7), Hld 4 (((Lens.id T_cube_Cube).comp le_T_cube_Cube_Value).comp (Lens.idx (α := T_api_Value) 4 k7 (idx_some hk7).1)) ty47, Hm, Hv fun L' hL => r_ia (k := k8) ar81 (look_t rfl) (look_t rfl) (idx_some hk8), Hld 3 ((Lens.id (Vector T_api_Value 4)).comp (Lens.idx (α := T_api_Value) 4 k8 (idx_some hk8).1)) ty47, Hl0 0 ty47, Hcl en187 (C_value_Xor hy5), Hcl en174 (C_value_Or hy6), H1 (r_fa fd185_0), Hv fun L' hL => r_ia (k := k9) ar81 (look_t rfl) (look_t rfl) (idx_some hk9), trivial⟩) fun ps3 => ?_
   obtain ⟨z1,hz1,h⟩:=Qbs h
   refine Qsn 4 (((Lens.id T_cube_Cube).comp le_T_cube_Cube_Value).comp (Lens.idx (α := T_api_Value) 4 k9 (idx_some hk9).1)) ty47 (hb := by exact hz1) ?_
   refine Sq.nil ?_
   refine To.bnorm ?_
   refine To.next ?_
   refine Wp.reg ?_
   refine Q2 r_add ?_
   refine Qm ?_
   refine Sq.nil ?_
   obtain rfl:=some_in h
   exact Qrd () 1
  ·refine Wp.exit ?_
   refine To.exit ?_
   obtain rfl:=some_in h
   exact Qlv () 0
 ·clear hl
  refine To.bexit ?_
  refine To.next ?_
  refine Qsr ?_
  refine Ql0 3 ty185 ?_
  refine Qs0 0 ty185 ?_
  refine Qnx ?_
  refine Wp.ret ?_
  obtain rfl:=some_in h
  exact To.end1 rfl (Qrc 0 ty185)
theorem C_value_Bit {x0 : T_api_Value} {x1 : Int}  {r : Bool} (h : L_value_Bit x0 x1 = some r) : Meets Try.prog 190 [VP.of (x0), VP.of (x1)] (VP.of (r)) := by
 unfold L_value_Bit at h
 refine Meets.of Try.func190 rfl Try.ntmps190 rfl fun W A => ?_
 refine Qsr ?_
 refine Qbx fun p1 => ?_
 refine Qa ?_
 refine Qnr ?_
 refine Qm ?_
 refine Q2 r_geq ?_
 refine Qm ?_
 refine Qg1 r_move ?_
 refine Qg2 r_lss ?_
 refine Qan ?_
 refine Qm ?_
 refine Qg (fun hb => r_load (i := 0) (Lens.id T_api_Value) (r := x0) ty47 (look_t rfl) rfl rfl rfl) ?_
 refine Qg1 r_move ?_
 obtain ⟨y1,hy1,h⟩:=Qbs h
 refine Qg (fun hb => r_call en194 (C_value_Right (condM_some hy1 hb)) ⟨look_tc rfl hb, look_tc rfl hb, trivial⟩) ?_
 refine Qg (fun hb => r_field le_T_api_Value_Lo fv47_1 ty45 rfl (look_tc rfl hb) rfl rfl) ?_
 refine Qg (fun hb => r_and64 (look_tc rfl hb) (look_u64 1 rfl)) ?_
 refine Qg (fun hb => r_eql64 (look_tc rfl hb) (look_u64 1 rfl)) ?_
 obtain ⟨z1,hz1,h⟩:=Qbs h
 refine Qn hz1 (r_and (look_t rfl) (look_t rfl) (fun h => h)) ?_
 refine Qa ?_
 refine Qnx ?_
 refine Wp.ret ?_
 obtain rfl:=some_in h
 exact Qe1
end Go.Proofs.Ytodajdohokmjnaa
