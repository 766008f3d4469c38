/-
  Printed by the decompiler (dec.py) out of the seat's translation. Each function meets its functional program. Conditions: none.
-/
import Derived.Test.YtodajdohokmjnaaDc0
import Derived.Test.YtodajdohokmjnaaDc1
namespace Go.Proofs.Ytodajdohokmjnaa
open Go Gv
set_option linter.unusedVariables false
set_option linter.unusedSimpArgs false
set_option maxRecDepth 100000
set_option maxHeartbeats 2000000
theorem C_mcase_Codes_Bool {x0 : T_mcase_Codes} {pp0 : Nat} {r : Bool × T_mcase_Codes} (h : L_mcase_Codes_Bool x0 = some r) : MeetsO Try.prog 54 [VP.eq (.pointer (some ⟨pp0, 0, none⟩))] [⟨some pp0, .var (x0 : T_mcase_Codes)⟩] (δ := Unit) (fun d => VP.of (r.1)) (fun d => [⟨some pp0, .var (r.2 : T_mcase_Codes)⟩]) := by
 unfold L_mcase_Codes_Bool at h
 refine MeetsO.of Try.func54 rfl Try.ntmps54 rfl fun W A => ?_
 refine Qsr ?_
 refine Qa ?_
 refine Qnr ?_
 refine Qm ?_
 refine Sq.bring 0 rfl ?_
 obtain ⟨y1,hy1,h⟩:=Qbs h
 refine QcO 1 en49 (C_mcase_Codes_Next hy1) fun q1 => ?_
 refine Q2 r_eql ?_
 refine Qa ?_
 refine Qnx ?_
 refine Wp.ret ?_
 refine To.bring 0 rfl ?_
 obtain rfl:=some_in h
 exact Qo1 ()
theorem C_value_Leading {x0 : Int} {x1 : Int}  {r : T_api_Value} (h : L_value_Leading x0 x1 = some r) : Meets Try.prog 177 [VP.of (x0), VP.of (x1)] (VP.of (r)) := by
 unfold L_value_Leading at h
 refine Meets.of Try.func177 rfl Try.ntmps177 rfl fun W A => ?_
 refine Qsr ?_
 refine Qal zr47 fun p1 => ?_
 refine Qnr ?_
 refine Qm ?_
 obtain ⟨y1,hy1,h⟩:=Qbs h
 refine Qcl en193 (C_value_within hy1) ?_
 refine Qa ?_
 refine Qnr ?_
 refine Qm ?_
 refine Q2 r_max ?_
 refine Qm ?_
 refine Q2 r_min ?_
 refine Qa ?_
 refine Qnr ?_
 refine Qm ?_
 obtain ⟨y2,hy2,h⟩:=Qbs h
 refine Qcl en184 (C_value_Ones hy2) ?_
 refine Qm ?_
 refine Qm ?_
 refine Q2 r_sub ?_
 obtain ⟨y3,hy3,h⟩:=Qbs h
 refine Qcl en184 (C_value_Ones hy3) ?_
 obtain ⟨y4,hy4,h⟩:=Qbs h
 refine Qcl en187 (C_value_Xor hy4) ?_
 refine Qs0 0 ty47 ?_
 refine Qnx ?_
 refine Wp.ret ?_
 obtain rfl:=some_in h
 exact To.end1 rfl (Qrc 0 ty47)
theorem C_entry_table {x0 : T_api_Schema} {x1 : T_api_Entry}  {r : T_api_Table × Bool} (h : L_entry_table x0 x1 = some r) : Meets Try.prog 139 [VP.of (x0), VP.of (x1)] (VP.tup [VP.of (r.1), VP.of (r.2)]) := by
 unfold L_entry_table at h
 refine Meets.of Try.func139 rfl Try.ntmps139 rfl fun W A => ?_
 refine Qsr ?_
 refine Qbx fun p1 => ?_
 refine Qbx fun p2 => ?_
 refine Qal zr136 fun p3 => ?_
 refine Qa ?_
 refine Qnr ?_
 refine Ql0 2 ty33 ?_
 refine Q1 (r_fa fd89_0) ?_
 refine Qld 1 le_T_api_Entry_Table ty3 ?_
 obtain ⟨y1,hy1,h⟩:=Qbs h
 refine Qcl en126 (C_check_TableOf hy1) ?_
 refine Qa ?_
 refine Qns ?_
 refine Qsr ?_
 refine Qm ?_
 refine Q2 r_lss ?_
 refine Qnx ?_
 refine Qcd h (fun h=>?_) fun h=>?_
 ·refine Qsr ?_
  refine Qbd bu136 zr136 (default : T_api_Table) .nil ?_
  refine Qs0 0 ty136 ?_
  refine Qa ?_
  refine Qnx ?_
  refine Wp.ret ?_
  refine To.ret ?_
  obtain rfl:=some_in h
  exact To.end2 rfl (Qrc 0 ty136) (rv_t rfl)
 ·refine Qkn ?_
  refine Qsr ?_
  refine Q1 (r_fa fd33_4) ?_
  refine Qld 2 le_T_api_Schema_Tables ty28 ?_
  refine Qm ?_
  obtain ⟨k1,hk1,h⟩:=Qbs h
  refine Qix hk1 Try.underlying28 ty136 ?_
  refine Q1 (r_loadp ty136) ?_
  refine Qs0 0 ty136 ?_
  refine Qa ?_
  refine Qnx ?_
  refine Wp.ret ?_
  obtain rfl:=some_in h
  exact To.end2 rfl (Qrc 0 ty136) (rv_t rfl)
theorem C_cover_near_fn1 {x0 : T_cube_Cube} {x1 : T_cube_Cube}  {r : Bool} (h : L_cover_near_fn1 x0 x1 = some r) : Meets Try.prog 162 [VP.of (x0), VP.ptr x1] (VP.of (r)) := by
 unfold L_cover_near_fn1 at h
 refine Meets.of Try.func162 rfl Try.ntmps162 rfl fun W A => ?_
 refine Qsr ?_
 refine Qbx fun p1 => ?_
 refine Qa ?_
 refine Qnr ?_
 refine Q1 (r_loadp ty185) ?_
 refine Ql0 0 ty185 ?_
 obtain ⟨y1,hy1,h⟩:=Qbs h
 refine Qcl en163 (C_cube_Meet hy1) ?_
 refine Qm ?_
 refine Qxt ?_
 refine Qxt ?_
 refine Qal zr185 fun p2 => ?_
 refine Qs0 0 ty185 ?_
 refine Qa ?_
 refine Qnr ?_
 refine Qm ?_
 refine Q1 r_not ?_
 refine Qa ?_
 refine Qnx ?_
 refine Wp.ret ?_
 obtain rfl:=some_in h
 exact Qe1
theorem C_cube_Within {x0 : T_cube_Cube} {x1 : T_cube_Cube}  {r : Bool} (h : L_cube_Within x0 x1 = some r) : Meets Try.prog 166 [VP.of (x0), VP.of (x1)] (VP.of (r)) := by
 unfold L_cube_Within at h
 refine Meets.of Try.func166 rfl Try.ntmps166 rfl fun W A => ?_
 refine Qsr ?_
 refine Qbx fun p1 => ?_
 refine Qbx fun p2 => ?_
 refine Qa ?_
 refine Qnr ?_
 refine Ql0 1 ty185 ?_
 refine Ql0 0 ty185 ?_
 obtain ⟨y1,hy1,h⟩:=Qbs h
 refine Qcl en163 (C_cube_Meet hy1) ?_
 refine Qm ?_
 refine Qxt ?_
 refine Qxt ?_
 refine Qal zr185 fun p3 => ?_
 refine Qs0 0 ty185 ?_
 refine Qa ?_
 refine Qnr ?_
 refine Qm ?_
 refine Qm ?_
 refine Qg (fun hb => r_load (i := 0) (Lens.id T_cube_Cube) (r := y1.1) ty185 (look_t rfl) rfl rfl rfl) ?_
 refine Qg (fun hb => r_load (i := 2) (Lens.id T_cube_Cube) (r := x0) ty185 (look_t rfl) rfl rfl rfl) ?_
 refine Qg2 (r_eqA eqv185 rfl eqg185 rfl) ?_
 refine Qan ?_
 refine Qa ?_
 refine Qnx ?_
 refine Wp.ret ?_
 obtain rfl:=some_in h
 exact Qe1
theorem C_value_Not {x0 : T_api_Value} {x1 : Int}  {r : T_api_Value} (h : L_value_Not x0 x1 = some r) : Meets Try.prog 188 [VP.of (x0), VP.of (x1)] (VP.of (r)) := by
 unfold L_value_Not at h
 refine Meets.of Try.func188 rfl Try.ntmps188 rfl fun W A => ?_
 refine Qsr ?_
 refine Qbx fun p1 => ?_
 refine Qal zr47 fun p2 => ?_
 refine Qns ?_
 obtain ⟨y1,hy1,h⟩:=Qbs h
 obtain ⟨y2,hy2,h⟩:=Qbs h
 refine Wp.draw mixed 10 [some 5, some 6, some 7, some 8, some 9, some 10, some 11, some 12, some 13, some 14] [[], [0], [], [2], [3], [], [5], [6], [4, 7], [1, 8]] [.val _, .val _, .val _, .val _, .val _, .val _, .val _, .val _, .val _, .val _] [false, false, false, false, false, false, false, false, false, false] (by kernel_rfl) rfl rfl rfl (fun ps1 => ⟨Hm, Hcl en184 (C_value_Ones hy1), H1 (r_fa fd47_0), Hld 1 le_T_api_Value_Hi ty45, H1 r_com64, H1 (r_fa fd47_1), Hld 1 le_T_api_Value_Lo ty45, H1 r_com64, Hv fun L' hL => r_build (b := { f_Hi := ~~~x0.f_Hi, f_Lo := ~~~x0.f_Lo : T_api_Value }) rfl bu47 zr47 (.cons le_T_api_Value_Hi rfl (look_t rfl) rfl (.cons le_T_api_Value_Lo rfl (look_t rfl) rfl (.nil))), Hcl en158 (C_value_And hy2), trivial⟩) fun ps1 => ?_
 refine Qs0 0 ty47 ?_
 refine Qnx ?_
 refine Wp.ret ?_
 obtain rfl:=some_in h
 exact To.end1 rfl (Qrc 0 ty47)
theorem C_cover_has {x0 : Vector T_api_Value 4} {x1 : Int}  {r : Bool} (h : L_cover_has x0 x1 = some r) : Meets Try.prog 189 [VP.of (x0), VP.of (x1)] (VP.of (r)) := by
 unfold L_cover_has at h
 refine Meets.of Try.func189 rfl Try.ntmps189 rfl fun W A => ?_
 refine Qsr ?_
 refine Qbx fun p1 => ?_
 refine Qa ?_
 refine Qnr ?_
 refine Qm ?_
 obtain ⟨y1,hy1,h⟩:=Qbs h
 refine Qv (r_quo (look_t rfl) (look_int 128) (divM_some hy1)) ?_
 obtain ⟨k1,hk1,h⟩:=Qbs h
 refine Qv (r_ia (k := k1) ar81 (look_t rfl) (look_t rfl) (idx_some hk1)) ?_
 refine Qld 0 ((Lens.id (Vector T_api_Value 4)).comp (Lens.idx (α := T_api_Value) 4 k1 (idx_some hk1).1)) ty47 ?_
 refine Qm ?_
 obtain ⟨y2,hy2,h⟩:=Qbs h
 refine Qv (r_rem (look_t rfl) (look_int 128) (modM_some hy2)) ?_
 refine Q2 r_sub ?_
 obtain ⟨y3,hy3,h⟩:=Qbs h
 refine Qcl en190 (C_value_Bit hy3) ?_
 refine Qa ?_
 refine Qnx ?_
 refine Wp.ret ?_
 obtain rfl:=some_in h
 exact Qe1
theorem C_cube_has {x0 : Vector T_api_Value 4} {x1 : Int}  {r : Bool} (h : L_cube_has x0 x1 = some r) : Meets Try.prog 170 [VP.of (x0), VP.of (x1)] (VP.of (r)) := by
 unfold L_cube_has at h
 refine Meets.of Try.func170 rfl Try.ntmps170 rfl fun W A => ?_
 refine Qsr ?_
 refine Qbx fun p1 => ?_
 refine Qa ?_
 refine Qnr ?_
 refine Qm ?_
 obtain ⟨y1,hy1,h⟩:=Qbs h
 refine Qcl en171 (C_cube_place hy1) ?_
 refine Qm ?_
 refine Qxt ?_
 refine Qxt ?_
 refine Qa ?_
 refine Qa ?_
 refine Qnr ?_
 refine Qm ?_
 obtain ⟨k1,hk1,h⟩:=Qbs h
 refine Qv (r_ia (k := k1) ar81 (look_t rfl) (look_t rfl) (idx_some hk1)) ?_
 refine Qld 0 ((Lens.id (Vector T_api_Value 4)).comp (Lens.idx (α := T_api_Value) 4 k1 (idx_some hk1).1)) ty47 ?_
 refine Qm ?_
 obtain ⟨y2,hy2,h⟩:=Qbs h
 refine Qcl en190 (C_value_Bit hy2) ?_
 refine Qa ?_
 refine Qnx ?_
 refine Wp.ret ?_
 obtain rfl:=some_in h
 exact Qe1
theorem C_mcase_Codes_states {x0 : T_mcase_Codes} {pp0 : Nat} {r : (List T_api_State) × T_mcase_Codes} (h : L_mcase_Codes_states x0 = some r) : MeetsO Try.prog 50 [VP.eq (.pointer (some ⟨pp0, 0, none⟩))] [⟨some pp0, .var (x0 : T_mcase_Codes)⟩] (δ := Unit) (fun d => VP.of (r.1)) (fun d => [⟨some pp0, .var (r.2 : T_mcase_Codes)⟩]) := by
 unfold L_mcase_Codes_states at h
 refine MeetsO.of Try.func50 rfl Try.ntmps50 rfl fun W A => ?_
 refine Qsr ?_
 refine Qv (r_asg (look_nil (α := T_api_State))) ?_
 refine Qnr ?_
 refine Qbl ([0, 0, 65535, 3] : List Int) Try.underlying64 ty3 zr3 ?_
 refine Qa ?_
 refine Qnr ?_
 refine Qm ?_
 refine Qm ?_
 refine Sq.bring 0 rfl ?_
 obtain ⟨y1,hy1,h⟩:=Qbs h
 refine QcO 1 en49 (C_mcase_Codes_Next hy1) fun q1 => ?_
 obtain ⟨k1,hk1,h⟩:=Qbs h
 refine Qix hk1 Try.underlying64 ty3 ?_
 refine Q1 (r_loadp ty3) ?_
 refine Qv (r_buildX (b := ({ (default : T_api_State) with f_ID := 1, f_Header := 1, f_Select := 4, f_Default := lget ([0, 0, 65535, 3] : List Int) k1 } : T_api_State)) [3] zh196_3 rfl bu196 zr196 (.cons le_T_api_State_ID rfl (look_int 1) rfl (by rfl) (.cons le_T_api_State_Header rfl (look_int 1) rfl (by rfl) (.cons le_T_api_State_Select rfl (look_int 4) rfl (by rfl) (.cons le_T_api_State_Default rfl (look_t rfl) rfl (by rfl) (.nil)))))) ?_
 refine Sq.own (α := T_api_Case) 198 ?_
 refine Sq.allocX (z := (default : T_api_State)) [3] zh196_3 zr196 rfl fun p1 => ?_
 refine Sq.own (α := T_api_Case) 198 ?_
 refine Sq.storeW (i := 1) ty196 (look_t rfl) (look_t rfl) rfl ?_
 refine Qnr ?_
 refine Qv (r_build (b := ({ (default : T_api_Value) with f_Lo := 1#64 } : T_api_Value)) rfl bu47 zr47 (.cons le_T_api_Value_Lo rfl (look_u64 1 rfl) rfl (.nil))) ?_
 refine Qv (r_build (b := ({ (default : T_api_Value) with f_Lo := 15#64 } : T_api_Value)) rfl bu47 zr47 (.cons le_T_api_Value_Lo rfl (look_u64 15 rfl) rfl (.nil))) ?_
 obtain ⟨z1,hz1,h⟩:=Qbs h
 refine Qn hz1 (r_build (b := { f_Value := ({ (default : T_api_Value) with f_Lo := 1#64 } : T_api_Value), f_Mask := ({ (default : T_api_Value) with f_Lo := 15#64 } : T_api_Value), f_Next := 2 : T_api_Case }) rfl bu198 zr198 (.cons le_T_api_Case_Value rfl (look_t rfl) rfl (.cons le_T_api_Case_Mask rfl (look_t rfl) rfl (.cons le_T_api_Case_Next rfl (look_int 2) rfl (.nil))))) ?_
 refine Qv (r_build (b := ({ (default : T_api_Value) with f_Lo := 2#64 } : T_api_Value)) rfl bu47 zr47 (.cons le_T_api_Value_Lo rfl (look_u64 2 rfl) rfl (.nil))) ?_
 refine Qv (r_build (b := ({ (default : T_api_Value) with f_Lo := 3#64 } : T_api_Value)) rfl bu47 zr47 (.cons le_T_api_Value_Lo rfl (look_u64 3 rfl) rfl (.nil))) ?_
 obtain ⟨z2,hz2,h⟩:=Qbs h
 refine Qn hz2 (r_build (b := { f_Value := ({ (default : T_api_Value) with f_Lo := 2#64 } : T_api_Value), f_Mask := ({ (default : T_api_Value) with f_Lo := 3#64 } : T_api_Value), f_Next := 3 : T_api_Case }) rfl bu198 zr198 (.cons le_T_api_Case_Value rfl (look_t rfl) rfl (.cons le_T_api_Case_Mask rfl (look_t rfl) rfl (.cons le_T_api_Case_Next rfl (look_int 3) rfl (.nil))))) ?_
 refine Sq.bslO (α := T_api_Case) (r := [z1, z2]) Try.underlying194 ty198 zr198 rfl rfl (.cons (by simp) (look_t rfl) (.cons (by simp) (look_t rfl) (.nil))) rfl fun key1 => ?_
 refine Q1 (r_fa fd196_3) ?_
 refine Sq.storeH (i := 2) (γ := T_api_Case) (b' := (({ ({ (default : T_api_State) with f_ID := 1, f_Header := 1, f_Select := 4, f_Default := lget ([0, 0, 65535, 3] : List Int) k1 } : T_api_State) with f_Cases := [] } : T_api_State) : T_api_State)) (os' := [(3, slv key1 [z1, z2].length 2)]) ((Lens.id T_api_State).comp le_T_api_State_Cases) ty194 (look_t rfl) (look_t rfl) slv_one rfl rfl rfl rfl ?_
 refine Qns ?_
 refine Qsr ?_
 refine Qm ?_
 refine Sq.bring 4 rfl ?_
 obtain ⟨y2,hy2,h⟩:=Qbs h
 refine QcO 1 en54 (C_mcase_Codes_Bool hy2) fun q2 => ?_
 refine Qnx ?_
 obtain ⟨m1,hm1,h⟩:=Qbs h
 refine Qcm (γ:=(Option Nat × Nat)) [0, 2, 3, 4, 23] (fun g1 => []) (fun g1 => [(0, ⟨some pp0, .var (m1.1 : T_mcase_Codes)⟩), (1, ⟨g1.1, .row 198 (m1.2 : List T_api_Case) g1.2⟩), (3, ⟨some p1, .varX (({ ({ (default : T_api_State) with f_ID := 1, f_Header := 1, f_Select := 4, f_Default := lget ([0, 0, 65535, 3] : List Int) k1 } : T_api_State) with f_Cases := [] } : T_api_State) : T_api_State) [(3, slv g1.1 m1.2.length g1.2)]⟩)]) (fun g1 => ?_) (fun hm hc => ?_) fun hm hc => ?_
 ·clear hm1
  refine To.next ?_
  refine Qsr ?_
  refine Qm ?_
  refine Qm ?_
  refine Sq.bring 0 rfl ?_
  obtain ⟨y3,hy3,h⟩:=Qbs h
  refine QcO 1 en49 (C_mcase_Codes_Next hy3) fun q3 => ?_
  obtain ⟨k2,hk2,h⟩:=Qbs h
  refine Qix hk2 Try.underlying64 ty3 ?_
  refine Q1 (r_loadp ty3) ?_
  obtain ⟨z3,hz3,h⟩:=Qbs h
  refine Qn hz3 (r_build (b := ({ (default : T_api_State) with f_ID := 2, f_Header := 2, f_Default := lget ([0, 0, 65535, 3] : List Int) k2 } : T_api_State)) rfl bu196 zr196 (.cons le_T_api_State_ID rfl (look_int 2) rfl (.cons le_T_api_State_Header rfl (look_int 2) rfl (.cons le_T_api_State_Default rfl (look_t rfl) rfl (.nil))))) ?_
  refine Qal zr196 fun p2 => ?_
  refine Qs0 0 ty196 ?_
  refine Qnr ?_
  obtain ⟨z4,hz4,h⟩:=Qbs h
  refine Qn hz4 (r_build (b := ({ (default : T_api_State) with f_ID := 3, f_Header := 3, f_Select := 9, f_Default := 0 } : T_api_State)) rfl bu196 zr196 (.cons le_T_api_State_ID rfl (look_int 3) rfl (.cons le_T_api_State_Header rfl (look_int 3) rfl (.cons le_T_api_State_Select rfl (look_int 9) rfl (.cons le_T_api_State_Default rfl (look_int 0) rfl (.nil)))))) ?_
  refine Qal zr196 fun p3 => ?_
  refine Qs0 0 ty196 ?_
  refine Qns ?_
  refine Qsr ?_
  refine Qm ?_
  refine Sq.bring 2 rfl ?_
  obtain ⟨y4,hy4,h⟩:=Qbs h
  refine QcO 1 en49 (C_mcase_Codes_Next hy4) fun q4 => ?_
  refine Q2 r_eql ?_
  refine Qnx ?_
  obtain ⟨m2,hm2,h⟩:=Qbs h
  refine Qcm (γ:=Unit) [0, 2, 3, 4, 5, 6, 23, 50] (fun g2 => []) (fun g2 => [(0, ⟨some pp0, .var (m2.1 : T_mcase_Codes)⟩), (1, ⟨some p3, .var (m2.2 : T_api_State)⟩)]) (fun g2 => ?_) (fun hm hc => ?_) fun hm hc => ?_
  ·clear hm2
   refine To.next ?_
   refine Qsr ?_
   refine Sq.thaw (β := T_api_State) (γ := T_api_Case) (b' := (({ ({ (default : T_api_State) with f_ID := 1, f_Header := 1, f_Select := 4, f_Default := lget ([0, 0, 65535, 3] : List Int) k1 } : T_api_State) with f_Cases := m1.2 } : T_api_State) : T_api_State)) ((Lens.id T_api_State).comp le_T_api_State_Cases) 5 3 0 rfl rfl rfl rfl rfl rfl ?_
   refine Sq.fromX 5 rfl ?_
   obtain ⟨z5,hz5,h⟩:=Qbs h
   refine Qn hz5 (r_load (i := 5) (Lens.id T_api_State) (r := ({ ({ (default : T_api_State) with f_ID := 1, f_Header := 1, f_Select := 4, f_Default := lget ([0, 0, 65535, 3] : List Int) k1 } : T_api_State) with f_Cases := m1.2 } : T_api_State)) ty196 (look_t rfl) rfl rfl rfl) ?_
   refine Ql0 2 ty196 ?_
   refine Ql0 1 ty196 ?_
   refine Qbl [z5, z3, m2.2] Try.underlying26 ty196 zr196 ?_
   refine Qa ?_
   refine Qnx ?_
   refine Wp.ret ?_
   refine To.bring 0 rfl ?_
   obtain rfl:=some_in h
   exact Qo1 ()
  ·have h := cond_t hc hm2
   refine Wp.reg ?_
   refine Qv (r_build (b := ({ (default : T_api_Value) with f_Lo := 5#64 } : T_api_Value)) rfl bu47 zr47 (.cons le_T_api_Value_Lo rfl (look_u64 5 rfl) rfl (.nil))) ?_
   refine Qv (r_build (b := ({ (default : T_api_Value) with f_Lo := 15#64 } : T_api_Value)) rfl bu47 zr47 (.cons le_T_api_Value_Lo rfl (look_u64 15 rfl) rfl (.nil))) ?_
   refine Qm ?_
   refine Sq.bring 0 rfl ?_
   obtain ⟨y5,hy5,h⟩:=Qbs h
   refine QcO 1 en49 (C_mcase_Codes_Next hy5) fun q5 => ?_
   refine Q2 r_add ?_
   obtain ⟨z6,hz6,h⟩:=Qbs h
   refine Qn hz6 (r_build (b := { f_Value := ({ (default : T_api_Value) with f_Lo := 5#64 } : T_api_Value), f_Mask := ({ (default : T_api_Value) with f_Lo := 15#64 } : T_api_Value), f_Next := w64 (1 + y5.1) : T_api_Case }) rfl bu198 zr198 (.cons le_T_api_Case_Value rfl (look_t rfl) rfl (.cons le_T_api_Case_Mask rfl (look_t rfl) rfl (.cons le_T_api_Case_Next rfl (look_t rfl) rfl (.nil))))) ?_
   refine Qbl [z6] Try.underlying194 ty198 zr198 ?_
   refine Q1 (r_fa fd196_3) ?_
   refine Qst 1 le_T_api_State_Cases ty194 ?_
   refine Sq.nil ?_
   obtain rfl:=some_in h
   exact Qmt 0 (hm ())
  ·have h := cond_f hc hm2
   refine Wp.skip ?_
   obtain rfl:=some_in h
   exact Qmt 0 (hm ())
 ·have h := cond_t hc hm1
  obtain ⟨y6,hy6,h⟩:=Qbs h
  obtain ⟨z7,hz7,h⟩:=Qbs h
  obtain ⟨y7,hy7,h⟩:=Qbs h
  obtain ⟨k3,hk3,h⟩:=Qbs h
  obtain ⟨z8,hz8,h⟩:=Qbs h
  obtain ⟨y8,hy8,h⟩:=Qbs h
  refine Qwl [0, 2, 3, 4, 7, 8, 9, 10, 11, 12, 13, 14, 15, 16, 17, 18, 19, 20, 21, 22, 23] ?_
  refine Wp.drawD mixed (Hp 24 [] [] _ :: Hp 25 (0 :: []) (3 :: []) _ :: Hp 26 [] [] _ :: ⟨some 27, (2 :: []), (0 :: []), (0 :: []), fun _ => VP.of (y6.1), fun hd _ => ⟨some pp0, .var (y6.2 : T_mcase_Codes)⟩⟩ :: Hp 28 (3 :: []) [] _ :: Hp 29 (4 :: []) [] _ :: Hp 30 (5 :: []) [] _ :: Hp 31 [] [] _ :: Hp 32 [] [] _ :: Hp 33 [] [] _ :: ⟨some 34, (3 :: 9 :: []), (0 :: []), (0 :: []), fun _ => VP.of (y7.1), fun hd _ => ⟨some pp0, .var (y7.2 : T_mcase_Codes)⟩⟩ :: Hp 35 (8 :: 10 :: []) [] _ :: Hp 36 (11 :: []) [] _ :: Hp 37 (6 :: 7 :: 12 :: []) [] _ :: Hp 38 (13 :: []) [] _ :: ⟨some 39, (1 :: 14 :: []), (1 :: []), (1 :: []), fun hd => VP.eq (slv (hd 15 0) y8.length ((hd 15 1).getD 0)), fun hd _ => ⟨(hd 15 0), .row 198 (y8 : List T_api_Case) ((hd 15 1).getD 0)⟩⟩ :: Hp 40 [] [] _ :: ⟨none, (1 :: 15 :: 16 :: []), (3 :: []), (3 :: []), fun _ => VP.any, fun hd _ => ⟨some p1, .varX (({ ({ (default : T_api_State) with f_ID := 1, f_Header := 1, f_Select := 4, f_Default := lget ([0, 0, 65535, 3] : List Int) k1 } : T_api_State) with f_Cases := [] } : T_api_State) : T_api_State) [(3, slv (hd 15 0) y8.length ((hd 15 1).getD 0))]⟩⟩ :: []) _ (0 :: 2 :: 3 :: 4 :: 7 :: 8 :: 9 :: 10 :: 11 :: 12 :: 13 :: 14 :: 15 :: 16 :: 17 :: 18 :: 19 :: 20 :: 21 :: 22 :: 23 :: []) rfl rfl (by kernel_rfl) ⟨D1 (r_fa fd196_3), Dv fun hd E' L' hE hL => r_loadH (i := 3) (q := 0) (β := T_api_State) (γ := T_api_Case) ty194 (look_t (hE _ _ rfl)) (hL 3 _ rfl rfl) rfl, Dm, ?_, D2 r_mul, D1 (r_ci64 Try.underlying3 Try.underlying45), Dv fun hd E' L' hE hL => (r_build (b := ({ (default : T_api_Value) with f_Lo := BitVec.ofInt 64 (w64 (8 * y6.1)) } : T_api_Value)) rfl bu47 zr47 (.cons le_T_api_Value_Lo rfl (look_t (hE _ _ rfl)) rfl (.nil))).as (some_in hz7), Dv fun hd E' L' hE hL => r_build (b := ({ (default : T_api_Value) with f_Lo := 8#64 } : T_api_Value)) rfl bu47 zr47 (.cons le_T_api_Value_Lo rfl (look_u64 8 rfl) rfl (.nil)), Dm, Dm, ?_, Dv fun hd E' L' hE hL => r_ias (k := k3) Try.underlying64 ty3 (look_t (hE _ _ rfl)) (look_t (hE _ _ rfl)) (idx_some hk3), D1 (r_loadp ty3), Dv fun hd E' L' hE hL => (r_build (b := { f_Value := z7, f_Mask := ({ (default : T_api_Value) with f_Lo := 8#64 } : T_api_Value), f_Next := lget ([0, 0, 65535, 3] : List Int) k3 : T_api_Case }) rfl bu198 zr198 (.cons le_T_api_Case_Value rfl (look_t (hE _ _ rfl)) rfl (.cons le_T_api_Case_Mask rfl (look_t (hE _ _ rfl)) rfl (.cons le_T_api_Case_Next rfl (look_t (hE _ _ rfl)) rfl (.nil))))).as (some_in hz8), Dv fun hd E' L' hE hL => r_bsl (r := [z8]) Try.underlying194 ty198 zr198 rfl rfl (.cons (by simp) (look_t (hE _ _ rfl)) (.nil)), ?_, D1 (r_fa fd196_3), ?_, trivial⟩ fun hd => ?_
  ·intro hd E' L' hE hL
   refine Sq.bring 0 (hL 0 _ rfl rfl) ?_
   refine Sq.callO (Lin := [⟨some pp0, .var (y2.2 : T_mcase_Codes)⟩]) (Lr := L'.eraseIdx 0) en49 (C_mcase_Codes_Next hy6) ⟨look_t (hE _ _ rfl), look_int 2, trivial⟩ rfl fun q6 => ?_
   refine Sq.nil ?_
   refine To.back 0 (hL 0 _ rfl rfl) ?_
   exact To.fin (gm []) rfl rfl
  ·intro hd E' L' hE hL
   refine Sq.bring 0 (hL 0 _ rfl rfl) ?_
   refine Sq.callO (Lin := [⟨some pp0, .var (y6.2 : T_mcase_Codes)⟩]) (Lr := L'.eraseIdx 0) en49 (C_mcase_Codes_Next hy7) ⟨look_t (hE _ _ rfl), look_int 4, trivial⟩ rfl fun q7 => ?_
   refine Sq.nil ?_
   refine To.back 0 (hL 0 _ rfl rfl) ?_
   exact To.fin (gm []) rfl rfl
  ·intro hd E' L' hE hL
   refine Sq.app (i := 1) Try.underlying194 ty198 zr198 (bytes := 40) (by kernel_rfl) (look_t (hE _ _ rfl)) (hL 1 _ rfl rfl) (look_t (hE _ _ rfl)) hy8 rfl fun key2 cap1 => ?_
   refine Sq.nil ?_
   exact To.fin (gm [key2, some cap1]) rfl rfl
  ·intro hd E' L' hE hL
   refine Sq.storeH (i := 3) (γ := T_api_Case) (b' := (({ ({ (default : T_api_State) with f_ID := 1, f_Header := 1, f_Select := 4, f_Default := lget ([0, 0, 65535, 3] : List Int) k1 } : T_api_State) with f_Cases := [] } : T_api_State) : T_api_State)) (os' := [(3, slv (hd 15 0) y8.length ((hd 15 1).getD 0))]) ((Lens.id T_api_State).comp le_T_api_State_Cases) ty194 (look_t (hE _ _ rfl)) (look_t (hE _ _ rfl)) slv_one (hL 3 _ rfl rfl) rfl rfl rfl ?_
   refine Sq.nil ?_
   exact To.fin (gm []) rfl rfl
  refine To.eqL (L2 := [⟨some pp0, .var (y7.2 : T_mcase_Codes)⟩, ⟨(hd 15 0), .row 198 (y8 : List T_api_Case) ((hd 15 1).getD 0)⟩, ⟨none, .row 198 (([] : List T_api_Case) : List T_api_Case) 0⟩, ⟨some p1, .varX (({ ({ (default : T_api_State) with f_ID := 1, f_Header := 1, f_Select := 4, f_Default := lget ([0, 0, 65535, 3] : List Int) k1 } : T_api_State) with f_Cases := [] } : T_api_State) : T_api_State) [(3, slv (hd 15 0) y8.length ((hd 15 1).getD 0))]⟩, ⟨none, .row 198 (([] : List T_api_Case) : List T_api_Case) 0⟩]) rfl ?_
  refine Qtl [0, 2, 3, 4, 7, 8, 9, 10, 11, 12, 13, 14, 15, 16, 17, 18, 19, 21, 22, 23, 24, 26, 27, 28, 29, 30, 31, 32, 33, 34, 35, 36, 37, 38, 39, 40] ?_
  obtain rfl:=some_in h
  exact Qmt 0 (hm ((hd 15 0), ((hd 15 1).getD 0)))
 ·have h := cond_f hc hm1
  refine Wp.skip ?_
  obtain rfl:=some_in h
  exact Qmt 0 (hm (key1, 2))
end Go.Proofs.Ytodajdohokmjnaa
