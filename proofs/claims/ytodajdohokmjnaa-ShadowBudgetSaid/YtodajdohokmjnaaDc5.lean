/-
  Printed by the decompiler (dec.py) out of the seat's translation. Each function meets its functional program. Conditions: none.
-/
import Derived.Test.YtodajdohokmjnaaDc0
import Derived.Test.YtodajdohokmjnaaDc1
import Derived.Test.YtodajdohokmjnaaDc2
import Derived.Test.YtodajdohokmjnaaDc3
import Derived.Test.YtodajdohokmjnaaDc4
namespace Go.Proofs.Ytodajdohokmjnaa
open Go Gv
set_option linter.unusedVariables false
set_option linter.unusedSimpArgs false
set_option maxRecDepth 100000
set_option maxHeartbeats 2000000
theorem C_cover_busiest {x0 : Vector T_api_Value 4} {x1 : List T_cube_Cube}  {r : Int} (h : L_cover_busiest x0 x1 = some r) : Meets Try.prog 169 [VP.of (x0), VP.of (x1)] (VP.of (r)) := by
 unfold L_cover_busiest at h
 refine Meets.of Try.func169 rfl Try.ntmps169 rfl fun W A => ?_
 refine Qsr ?_
 refine Qbx fun p1 => ?_
 refine Qa ?_
 refine Qnr ?_
 refine Qa ?_
 refine Qa ?_
 refine Qns ?_
 refine Qsr ?_
 refine Qm ?_
 refine Qnx ?_
 refine Wp.block ?_
 obtain ⟨e1,hl,h⟩:=Qbs h
 refine Qlp (γ:=Unit) (δ:=Unit) hl [0, 1, 2, 4] (fun s1 g1 => [(5, VP.of (s1.1)), (6, VP.of (s1.2.1)), (11, VP.of (s1.2.2))]) (fun s1 g1 => []) (fun q1 => Exit.exit 0) (fun q1 g1 => [(5, VP.of (q1.1)), (6, VP.of (q1.2.1)), (11, VP.of (q1.2.2.1)), (12, VP.of (q1.2.2.2))]) (fun q1 g1 => []) () (fun s1 r h g1 => ?_) fun g1 => ?_
 ·clear hl
  refine Qsr ?_
  refine Q2 r_lss ?_
  refine Qns ?_
  refine Qcd h (fun h=>?_) fun h=>?_
  ·refine Qkn ?_
   refine Wp.seq ?_
   refine Wp.block ?_
   refine Qsr ?_
   refine Qm ?_
   refine Qa ?_
   refine Qns ?_
   refine Qsr ?_
   refine Ql0 0 ty81 ?_
   refine Qm ?_
   obtain ⟨y1,hy1,h⟩:=Qbs h
   refine Qcl en189 (C_cover_has hy1) ?_
   refine Q1 r_not ?_
   refine Qnx ?_
   refine Qcd h (fun h=>?_) fun h=>?_
   ·refine Wp.exit ?_
    refine To.exit ?_
    refine To.bexit ?_
    refine To.next ?_
    refine Wp.reg ?_
    refine Q2 r_add ?_
    refine Qm ?_
    refine Sq.nil ?_
    obtain rfl:=some_in h
    exact Qrd () 0
   ·refine Qkn ?_
    refine Qsr ?_
    refine Qa ?_
    refine Qns ?_
    refine Qsr ?_
    refine Qm ?_
    refine Q1 (r_len Try.underlying186) ?_
    refine Qm ?_
    refine Qnx ?_
    refine Wp.block ?_
    obtain ⟨e2,hl,h⟩:=Qbs h
    refine Qlp (γ:=Unit) (δ:=Unit) hl [0, 1, 2, 4, 5, 6, 7, 11, 12, 17, 18, 19] (fun s2 g2 => [(8, VP.of (s2.1)), (20, VP.of (s2.2))]) (fun s2 g2 => []) (fun q2 => Exit.exit 2) (fun q2 g2 => [(8, VP.of (q2.1)), (20, VP.of (q2.2.1)), (21, VP.of (q2.2.2))]) (fun q2 g2 => []) () (fun s2 r h g2 => ?_) fun g2 => ?_
    ·clear hl
     refine Qsr ?_
     refine Q2 r_lss ?_
     refine Qns ?_
     refine Qcd h (fun h=>?_) fun h=>?_
     ·refine Qkn ?_
      refine Wp.seq ?_
      refine Wp.block ?_
      refine Qsr ?_
      obtain ⟨k1,hk1,h⟩:=Qbs h
      refine Qix hk1 Try.underlying186 ty185 ?_
      refine Q1 (r_loadp ty185) ?_
      refine Qal zr185 fun p2 => ?_
      refine Qs0 0 ty185 ?_
      refine Qnr ?_
      refine Q1 (r_fa fd185_1) ?_
      refine Qld 0 le_T_cube_Cube_Mask ty81 ?_
      refine Qm ?_
      obtain ⟨y2,hy2,h⟩:=Qbs h
      refine Qcl en189 (C_cover_has hy2) ?_
      refine Qnx ?_
      obtain ⟨m1,hm1,h⟩:=Qbs h
      refine Qcm (γ:=Unit) [0, 1, 2, 4, 5, 6, 7, 10, 11, 12, 17, 18, 19, 20, 21, 27] (fun g3 => [(8, VP.of (m1))]) (fun g3 => []) (fun g3 => ?_) (fun hm hc => ?_) fun hm hc => ?_
      ·clear hm1
       refine To.bnorm ?_
       refine To.next ?_
       refine Wp.reg ?_
       refine Q2 r_add ?_
       refine Qm ?_
       refine Sq.nil ?_
       obtain rfl:=some_in h
       exact Qrd () 1
      ·have h := cond_t hc hm1
       refine Wp.reg ?_
       refine Qm ?_
       refine Q2 r_add ?_
       refine Qa ?_
       refine Sq.nil ?_
       obtain rfl:=some_in h
       exact Qmt 0 (hm ())
      ·have h := cond_f hc hm1
       refine Wp.skip ?_
       obtain rfl:=some_in h
       exact Qmt 0 (hm ())
     ·refine Wp.exit ?_
      refine To.exit ?_
      obtain rfl:=some_in h
      exact Qlv () 0
    ·clear hl
     refine To.bexit ?_
     refine To.next ?_
     refine Qsr ?_
     refine Qm ?_
     refine Qm ?_
     refine Q2 r_gtr ?_
     refine Qnx ?_
     obtain ⟨m2,hm2,h⟩:=Qbs h
     refine Qcm (γ:=Unit) [0, 1, 2, 4, 7, 8, 11, 12, 17, 18, 19, 20, 21, 33] (fun g4 => [(5, VP.of (m2.1)), (6, VP.of (m2.2))]) (fun g4 => []) (fun g4 => ?_) (fun hm hc => ?_) fun hm hc => ?_
     ·clear hm2
      refine To.bnorm ?_
      refine To.next ?_
      refine Wp.reg ?_
      refine Q2 r_add ?_
      refine Qm ?_
      refine Sq.nil ?_
      obtain rfl:=some_in h
      exact Qrd () 0
     ·have h := cond_t hc hm2
      refine Wp.reg ?_
      refine Qm ?_
      refine Qm ?_
      refine Qa ?_
      refine Qa ?_
      refine Sq.nil ?_
      obtain rfl:=some_in h
      exact Qmt 0 (hm ())
     ·have h := cond_f hc hm2
      refine Wp.skip ?_
      obtain rfl:=some_in h
      exact Qmt 0 (hm ())
  ·refine Wp.exit ?_
   refine To.exit ?_
   obtain rfl:=some_in h
   exact Qlv () 0
 ·clear hl
  refine To.bexit ?_
  refine To.next ?_
  refine Qsr ?_
  refine Qm ?_
  refine Qa ?_
  refine Qnx ?_
  refine Wp.ret ?_
  obtain rfl:=some_in h
  exact Qe1
theorem C_cube_Fix {x0 : T_cube_Cube} {x1 : Int} {x2 : Bool}  {r : T_cube_Cube} (h : L_cube_Fix x0 x1 x2 = some r) : Meets Try.prog 133 [VP.of (x0), VP.of (x1), VP.of (x2)] (VP.of (r)) := by
 unfold L_cube_Fix at h
 refine Meets.of Try.func133 rfl Try.ntmps133 rfl fun W A => ?_
 refine Qsr ?_
 refine Qbx fun p1 => ?_
 refine Qal zr185 fun p2 => ?_
 refine Qns ?_
 refine Qsr ?_
 refine Qm ?_
 refine Q2 r_lss ?_
 refine Qm ?_
 refine Qg1 r_move ?_
 refine Qg2 r_geq ?_
 refine Qor ?_
 refine Qm ?_
 refine Qg1 (r_fa fd185_1) ?_
 refine Qg (fun hb => r_load (i := 1) ((Lens.id T_cube_Cube).comp le_T_cube_Cube_Mask) (r := x0.f_Mask) ty81 (look_tc rfl hb) rfl rfl rfl) ?_
 refine Qg1 r_move ?_
 obtain ⟨y1,hy1,h⟩:=Qbs h
 refine Qg (fun hb => r_call en170 (C_cube_has (condM_some hy1 hb)) ⟨look_tc rfl hb, look_tc rfl hb, trivial⟩) ?_
 refine Qor ?_
 refine Qnx ?_
 refine Qcd h (fun h=>?_) fun h=>?_
 ·refine Qsr ?_
  refine Ql0 1 ty185 ?_
  refine Qs0 0 ty185 ?_
  refine Qnx ?_
  refine Wp.ret ?_
  refine To.ret ?_
  obtain rfl:=some_in h
  exact To.end1 rfl (Qrc 0 ty185)
 ·refine Qkn ?_
  refine Qsr ?_
  refine Qm ?_
  obtain ⟨y2,hy2,h⟩:=Qbs h
  refine Qcl en171 (C_cube_place hy2) ?_
  refine Qm ?_
  refine Qxt ?_
  refine Qxt ?_
  refine Qa ?_
  refine Qa ?_
  refine Qnr ?_
  obtain ⟨y3,hy3,h⟩:=Qbs h
  refine Qv (r_call en173 (C_value_Of hy3) ⟨look_u64 1 rfl, trivial⟩) ?_
  refine Qm ?_
  obtain ⟨y4,hy4,h⟩:=Qbs h
  refine Qcl en172 (C_value_Left hy4) ?_
  refine Qal zr47 fun p3 => ?_
  refine Qs0 0 ty47 ?_
  refine Qns ?_
  obtain ⟨k1,hk1,h⟩:=Qbs h
  obtain ⟨y5,hy5,h⟩:=Qbs h
  obtain ⟨k2,hk2,h⟩:=Qbs h
  refine Wp.draw mixed 9 [some 31, some 32, some 33, some 34, some 35, some 36, some 37, some 38, some 39] [[], [], [], [1, 2], [3], [], [4, 5], [], [0, 7]] [.val _, .val _, .val _, .val _, .val _, .val _, .val _, .val _, .val _] [false, false, false, false, false, false, false, false, false] (by kernel_rfl) rfl rfl rfl (fun ps1 => ⟨Hm, Hm, H1 (r_fa fd185_1), Hv fun L' hL => r_ia (k := k1) ar81 (look_t rfl) (look_t rfl) (idx_some hk1), Hld 2 (((Lens.id T_cube_Cube).comp le_T_cube_Cube_Mask).comp (Lens.idx (α := T_api_Value) 4 k1 (idx_some hk1).1)) ty47, Hl0 0 ty47, Hcl en174 (C_value_Or hy5), H1 (r_fa fd185_1), Hv fun L' hL => r_ia (k := k2) ar81 (look_t rfl) (look_t rfl) (idx_some hk2), trivial⟩) fun ps1 => ?_
  refine Qst 2 (((Lens.id T_cube_Cube).comp le_T_cube_Cube_Mask).comp (Lens.idx (α := T_api_Value) 4 k2 (idx_some hk2).1)) ty47 ?_
  refine Qns ?_
  refine Qsr ?_
  refine Qm ?_
  refine Qnx ?_
  obtain ⟨m1,hm1,h⟩:=Qbs h
  refine Qcm (γ:=Unit) [0, 1, 2, 3, 6, 7, 8, 9, 21, 40] (fun g1 => []) (fun g1 => [(2, ⟨some p1, .var (m1 : T_cube_Cube)⟩)]) (fun g1 => ?_) (fun hm hc => ?_) fun hm hc => ?_
  ·clear hm1
   refine To.next ?_
   refine Qsr ?_
   refine Ql0 2 ty185 ?_
   refine Qs0 1 ty185 ?_
   refine Qnx ?_
   refine Wp.ret ?_
   obtain rfl:=some_in h
   exact To.end1 rfl (Qrc 1 ty185)
  ·have h := cond_t hc hm1
   obtain ⟨k3,hk3,h⟩:=Qbs h
   obtain ⟨y6,hy6,h⟩:=Qbs h
   obtain ⟨k4,hk4,h⟩:=Qbs h
   refine Wp.draw mixed 9 [some 41, some 42, some 43, some 44, some 45, some 46, some 47, some 48, some 49] [[], [], [], [1, 2], [3], [], [4, 5], [], [0, 7]] [.val _, .val _, .val _, .val _, .val _, .val _, .val _, .val _, .val _] [false, false, false, false, false, false, false, false, false] (by kernel_rfl) rfl rfl rfl (fun ps2 => ⟨Hm, Hm, H1 (r_fa fd185_0), Hv fun L' hL => r_ia (k := k3) ar81 (look_t rfl) (look_t rfl) (idx_some hk3), Hld 2 (((Lens.id T_cube_Cube).comp le_T_cube_Cube_Value).comp (Lens.idx (α := T_api_Value) 4 k3 (idx_some hk3).1)) ty47, Hl0 0 ty47, Hcl en174 (C_value_Or hy6), H1 (r_fa fd185_0), Hv fun L' hL => r_ia (k := k4) ar81 (look_t rfl) (look_t rfl) (idx_some hk4), trivial⟩) fun ps2 => ?_
   obtain ⟨z1,hz1,h⟩:=Qbs h
   refine Qsn 2 (((Lens.id T_cube_Cube).comp le_T_cube_Cube_Value).comp (Lens.idx (α := T_api_Value) 4 k4 (idx_some hk4).1)) ty47 (hb := by exact hz1) ?_
   refine Sq.nil ?_
   obtain rfl:=some_in h
   exact Qmt 0 (hm ())
  ·have h := cond_f hc hm1
   refine Wp.skip ?_
   obtain rfl:=some_in h
   exact Qmt 0 (hm ())
theorem C_mcase_Codes_Schema {x0 : T_mcase_Codes} {pp0 : Nat} {r : T_api_Schema × T_mcase_Codes} (h : L_mcase_Codes_Schema x0 = some r) : MeetsO Try.prog 13 [VP.eq (.pointer (some ⟨pp0, 0, none⟩))] [⟨some pp0, .var (x0 : T_mcase_Codes)⟩] (δ := Unit) (fun d => VP.of (r.1)) (fun d => [⟨some pp0, .var (r.2 : T_mcase_Codes)⟩]) := by
 unfold L_mcase_Codes_Schema at h
 refine MeetsO.of Try.func13 rfl Try.ntmps13 rfl fun W A => ?_
 refine Qsr ?_
 refine Qal zr33 fun p1 => ?_
 refine Qnr ?_
 refine Qm ?_
 refine Sq.bring 1 rfl ?_
 obtain ⟨y1,hy1,h⟩:=Qbs h
 refine QcO 1 en49 (C_mcase_Codes_Next hy1) fun q1 => ?_
 refine Q2 r_add ?_
 refine Qm ?_
 refine Sq.bring 0 rfl ?_
 obtain ⟨y2,hy2,h⟩:=Qbs h
 refine QcO 1 en49 (C_mcase_Codes_Next hy2) fun q2 => ?_
 refine Q2 r_add ?_
 refine Qv (r_buildX (b := ({ (default : T_api_Schema) with f_MaxBatch := w64 (2 + y1.1), f_Budget := w64 (12 + y2.1) } : T_api_Schema)) [5, 7] zh33_5_7 rfl bu33 zr33 (.cons le_T_api_Schema_MaxBatch rfl (look_t rfl) rfl (by rfl) (.cons le_T_api_Schema_Budget rfl (look_t rfl) rfl (by rfl) (.nil)))) ?_
 refine Sq.own (α := T_api_Stage) 131 ?_
 refine Sq.own (α := T_api_Ref) 133 ?_
 refine Sq.allocX (z := (default : T_api_Schema)) [5, 7] zh33_5_7 zr33 rfl fun p2 => ?_
 refine Sq.own (α := T_api_Stage) 131 ?_
 refine Sq.own (α := T_api_Ref) 133 ?_
 refine Sq.storeW (i := 2) ty33 (look_t rfl) (look_t rfl) rfl ?_
 refine Qnr ?_
 obtain ⟨z1,hz1,h⟩:=Qbs h
 refine Qn hz1 (r_build (b := { f_ID := 1, f_Name := ByteArray.mk #[105, 110, 103, 114, 101, 115, 115], f_Bits := 16 : T_api_Field }) rfl bu123 zr123 (.cons le_T_api_Field_ID rfl (look_int 1) rfl (.cons le_T_api_Field_Name rfl (look_str (ByteArray.mk #[105, 110, 103, 114, 101, 115, 115])) rfl (.cons le_T_api_Field_Bits rfl (look_int 16) rfl (.nil))))) ?_
 obtain ⟨z2,hz2,h⟩:=Qbs h
 refine Qn hz2 (r_build (b := { f_ID := 2, f_Name := ByteArray.mk #[101, 103, 114, 101, 115, 115], f_Bits := 16 : T_api_Field }) rfl bu123 zr123 (.cons le_T_api_Field_ID rfl (look_int 2) rfl (.cons le_T_api_Field_Name rfl (look_str (ByteArray.mk #[101, 103, 114, 101, 115, 115])) rfl (.cons le_T_api_Field_Bits rfl (look_int 16) rfl (.nil))))) ?_
 obtain ⟨z3,hz3,h⟩:=Qbs h
 refine Qn hz3 (r_build (b := { f_ID := 3, f_Name := ByteArray.mk #[109, 101, 116, 97], f_Bits := 8 : T_api_Field }) rfl bu123 zr123 (.cons le_T_api_Field_ID rfl (look_int 3) rfl (.cons le_T_api_Field_Name rfl (look_str (ByteArray.mk #[109, 101, 116, 97])) rfl (.cons le_T_api_Field_Bits rfl (look_int 8) rfl (.nil))))) ?_
 refine Qbd bu123 zr123 { f_ID := 4, f_Name := ByteArray.mk #[97], f_Bits := 4 : T_api_Field } (Qfl le_T_api_Field_ID (Qfl le_T_api_Field_Name (Qfl le_T_api_Field_Bits .nil))) ?_
 refine Qbd bu123 zr123 { f_ID := 5, f_Name := ByteArray.mk #[98], f_Bits := 4 : T_api_Field } (Qfl le_T_api_Field_ID (Qfl le_T_api_Field_Name (Qfl le_T_api_Field_Bits .nil))) ?_
 obtain ⟨z4,hz4,h⟩:=Qbs h
 refine Qn hz4 (r_build (b := { f_ID := 6, f_Name := ByteArray.mk #[101], f_Bits := 8 : T_api_Field }) rfl bu123 zr123 (.cons le_T_api_Field_ID rfl (look_int 6) rfl (.cons le_T_api_Field_Name rfl (look_str (ByteArray.mk #[101])) rfl (.cons le_T_api_Field_Bits rfl (look_int 8) rfl (.nil))))) ?_
 obtain ⟨z5,hz5,h⟩:=Qbs h
 refine Qn hz5 (r_build (b := { f_ID := 7, f_Name := ByteArray.mk #[100], f_Bits := 32 : T_api_Field }) rfl bu123 zr123 (.cons le_T_api_Field_ID rfl (look_int 7) rfl (.cons le_T_api_Field_Name rfl (look_str (ByteArray.mk #[100])) rfl (.cons le_T_api_Field_Bits rfl (look_int 32) rfl (.nil))))) ?_
 obtain ⟨z6,hz6,h⟩:=Qbs h
 refine Qn hz6 (r_build (b := { f_ID := 8, f_Name := ByteArray.mk #[102], f_Bits := 12 : T_api_Field }) rfl bu123 zr123 (.cons le_T_api_Field_ID rfl (look_int 8) rfl (.cons le_T_api_Field_Name rfl (look_str (ByteArray.mk #[102])) rfl (.cons le_T_api_Field_Bits rfl (look_int 12) rfl (.nil))))) ?_
 obtain ⟨z7,hz7,h⟩:=Qbs h
 refine Qn hz7 (r_build (b := { f_ID := 9, f_Name := ByteArray.mk #[103], f_Bits := 4 : T_api_Field }) rfl bu123 zr123 (.cons le_T_api_Field_ID rfl (look_int 9) rfl (.cons le_T_api_Field_Name rfl (look_str (ByteArray.mk #[103])) rfl (.cons le_T_api_Field_Bits rfl (look_int 4) rfl (.nil))))) ?_
 obtain ⟨z8,hz8,h⟩:=Qbs h
 refine Qn hz8 (r_bsl (r := [z1, z2, z3, { f_ID := 4, f_Name := ByteArray.mk #[97], f_Bits := 4 : T_api_Field }, { f_ID := 5, f_Name := ByteArray.mk #[98], f_Bits := 4 : T_api_Field }, z4, z5, z6, z7]) Try.underlying24 ty123 zr123 rfl rfl (.cons (by simp) (look_t rfl) (.cons (by simp) (look_t rfl) (.cons (by simp) (look_t rfl) (.cons (by simp) (look_t rfl) (.cons (by simp) (look_t rfl) (.cons (by simp) (look_t rfl) (.cons (by simp) (look_t rfl) (.cons (by simp) (look_t rfl) (.cons (by simp) (look_t rfl) (.nil))))))))))) ?_
 refine Q1 (r_fa fd33_0) ?_
 obtain ⟨z9,hz9,h⟩:=Qbs h
 refine Sq.storeX (i := 2) ((Lens.id T_api_Schema).comp le_T_api_Schema_Fields) (v := (z8 : List T_api_Field)) (b' := (z9 : T_api_Schema)) ty24 (look_t rfl) (look_t rfl) rfl rfl (some_in hz9) (by rfl) ?_
 refine Qnr ?_
 refine Qbl ([4, 5, 6] : List Int) Try.underlying64 ty3 zr3 ?_
 obtain ⟨z10,hz10,h⟩:=Qbs h
 refine Qn hz10 (r_build (b := { f_ID := 1, f_Name := ByteArray.mk #[111, 110, 101], f_Fields := ([4, 5, 6] : List Int) : T_api_Header }) rfl bu125 zr125 (.cons le_T_api_Header_ID rfl (look_int 1) rfl (.cons le_T_api_Header_Name rfl (look_str (ByteArray.mk #[111, 110, 101])) rfl (.cons le_T_api_Header_Fields rfl (look_t rfl) rfl (.nil))))) ?_
 refine Qbl ([7] : List Int) Try.underlying64 ty3 zr3 ?_
 obtain ⟨z11,hz11,h⟩:=Qbs h
 refine Qn hz11 (r_build (b := { f_ID := 2, f_Name := ByteArray.mk #[116, 119, 111], f_Fields := ([7] : List Int) : T_api_Header }) rfl bu125 zr125 (.cons le_T_api_Header_ID rfl (look_int 2) rfl (.cons le_T_api_Header_Name rfl (look_str (ByteArray.mk #[116, 119, 111])) rfl (.cons le_T_api_Header_Fields rfl (look_t rfl) rfl (.nil))))) ?_
 refine Qbl ([8, 9] : List Int) Try.underlying64 ty3 zr3 ?_
 obtain ⟨z12,hz12,h⟩:=Qbs h
 refine Qn hz12 (r_build (b := { f_ID := 3, f_Name := ByteArray.mk #[116, 104, 114, 101, 101], f_Fields := ([8, 9] : List Int) : T_api_Header }) rfl bu125 zr125 (.cons le_T_api_Header_ID rfl (look_int 3) rfl (.cons le_T_api_Header_Name rfl (look_str (ByteArray.mk #[116, 104, 114, 101, 101])) rfl (.cons le_T_api_Header_Fields rfl (look_t rfl) rfl (.nil))))) ?_
 refine Qbl [z10, z11, z12] Try.underlying25 ty125 zr125 ?_
 refine Q1 (r_fa fd33_1) ?_
 refine Sq.storeX (i := 2) ((Lens.id T_api_Schema).comp le_T_api_Schema_Headers) (v := ([z10, z11, z12] : List T_api_Header)) (b' := (({ z9 with f_Headers := [z10, z11, z12] } : T_api_Schema) : T_api_Schema)) ty25 (look_t rfl) (look_t rfl) rfl rfl rfl (by rfl) ?_
 refine Qnr ?_
 refine Qm ?_
 refine Sq.bring 5 rfl ?_
 obtain ⟨y3,hy3,h⟩:=Qbs h
 refine QcO 1 en50 (C_mcase_Codes_states hy3) fun q3 => ?_
 refine Qm ?_
 refine Sq.bring 0 rfl ?_
 obtain ⟨y4,hy4,h⟩:=Qbs h
 refine QcO 1 en51 (C_mcase_Codes_actions hy4) fun q4 => ?_
 refine Qm ?_
 refine Sq.bring 0 rfl ?_
 obtain ⟨y5,hy5,h⟩:=Qbs h
 refine QcO 1 en52 (C_mcase_Codes_tables hy5) fun q5 => ?_
 refine Q1 (r_fa fd33_2) ?_
 obtain ⟨z13,hz13,h⟩:=Qbs h
 refine Sq.storeX (i := 3) ((Lens.id T_api_Schema).comp le_T_api_Schema_States) (v := (y3.1 : List T_api_State)) (b' := (z13 : T_api_Schema)) ty26 (look_t rfl) (look_t rfl) rfl rfl (some_in hz13) (by rfl) ?_
 refine Q1 (r_fa fd33_3) ?_
 refine Sq.storeX (i := 3) ((Lens.id T_api_Schema).comp le_T_api_Schema_Actions) (v := (y4.1 : List T_api_Action)) (b' := (({ z13 with f_Actions := y4.1 } : T_api_Schema) : T_api_Schema)) ty27 (look_t rfl) (look_t rfl) rfl rfl rfl (by rfl) ?_
 refine Q1 (r_fa fd33_4) ?_
 obtain ⟨z14,hz14,h⟩:=Qbs h
 refine Sq.storeX (i := 3) ((Lens.id T_api_Schema).comp le_T_api_Schema_Tables) (v := (y5.1 : List T_api_Table)) (b' := (z14 : T_api_Schema)) ty28 (look_t rfl) (look_t rfl) rfl rfl (some_in hz14) (by rfl) ?_
 refine Qnr ?_
 refine Qm ?_
 refine Q1 (r_fa fd33_4) ?_
 refine Qlx 3 le_T_api_Schema_Tables ty28 ?_
 refine Sq.bring 0 rfl ?_
 obtain ⟨y6,hy6,h⟩:=Qbs h
 refine QcO 1 en53 (C_mcase_Codes_roles hy6) fun q6 => ?_
 refine Q1 (r_fa fd33_6) ?_
 refine Sq.storeX (i := 3) ((Lens.id T_api_Schema).comp le_T_api_Schema_Roles) (v := (y6.1 : List T_api_Role)) (b' := (({ z14 with f_Roles := y6.1 } : T_api_Schema) : T_api_Schema)) ty30 (look_t rfl) (look_t rfl) rfl rfl rfl (by rfl) ?_
 refine Qnr ?_
 refine Qbd bu131 zr131 { f_Table := 1, f_Header := 1 : T_api_Stage } (Qfl le_T_api_Stage_Table (Qfl le_T_api_Stage_Header .nil)) ?_
 refine Qbd bu131 zr131 { f_Table := 2, f_Header := 2 : T_api_Stage } (Qfl le_T_api_Stage_Table (Qfl le_T_api_Stage_Header .nil)) ?_
 refine Qbd bu131 zr131 ({ (default : T_api_Stage) with f_Table := 3 } : T_api_Stage) (Qfl le_T_api_Stage_Table .nil) ?_
 refine Qbd bu131 zr131 { f_Table := 4, f_Header := 3 : T_api_Stage } (Qfl le_T_api_Stage_Table (Qfl le_T_api_Stage_Header .nil)) ?_
 obtain ⟨z15,hz15,h⟩:=Qbs h
 refine Sq.bslN (α := T_api_Stage) (r0 := [{ f_Table := 1, f_Header := 1 : T_api_Stage }, { f_Table := 2, f_Header := 2 : T_api_Stage }, ({ (default : T_api_Stage) with f_Table := 3 } : T_api_Stage), { f_Table := 4, f_Header := 3 : T_api_Stage }]) (r := z15) Try.underlying29 ty131 zr131 rfl rfl (.cons (by simp) (look_t rfl) (.cons (by simp) (look_t rfl) (.cons (by simp) (look_t rfl) (.cons (by simp) (look_t rfl) (.nil))))) (some_in hz15) rfl fun key1 => ?_
 refine Q1 (r_fa fd33_5) ?_
 refine Sq.storeH (i := 4) (γ := T_api_Stage) (b' := (({ ({ z14 with f_Roles := y6.1 } : T_api_Schema) with f_Stages := [] } : T_api_Schema) : T_api_Schema)) (os' := [(5, slv key1 z15.length 4), (7, slv none ([] : List T_api_Ref).length 0)]) ((Lens.id T_api_Schema).comp le_T_api_Schema_Stages) ty29 (look_t rfl) (look_t rfl) slv_one rfl rfl rfl rfl ?_
 refine Qns ?_
 refine Qsr ?_
 refine Qm ?_
 refine Sq.bring 1 rfl ?_
 obtain ⟨y7,hy7,h⟩:=Qbs h
 refine QcO 1 en54 (C_mcase_Codes_Bool hy7) fun q7 => ?_
 refine Qnx ?_
 obtain ⟨m1,hm1,h⟩:=Qbs h
 refine Qcm (γ:=(Option Nat × Nat)) [0, 2, 3, 51] (fun g1 => []) (fun g1 => [(1, ⟨g1.1, .row 131 (m1 : List T_api_Stage) g1.2⟩), (4, ⟨some p2, .varX (({ ({ z14 with f_Roles := y6.1 } : T_api_Schema) with f_Stages := [] } : T_api_Schema) : T_api_Schema) [(5, slv g1.1 m1.length g1.2), (7, slv none ([] : List T_api_Ref).length 0)]⟩)]) (fun g1 => ?_) (fun hm hc => ?_) fun hm hc => ?_
 ·clear hm1
  refine To.next ?_
  refine Wp.seq ?_
  refine Qsr ?_
  refine Qm ?_
  refine Sq.bring 0 rfl ?_
  obtain ⟨y8,hy8,h⟩:=Qbs h
  refine QcO 1 en54 (C_mcase_Codes_Bool hy8) fun q8 => ?_
  refine Qnx ?_
  obtain ⟨m2,hm2,h⟩:=Qbs h
  refine Qcm (γ:=(Option Nat × Nat)) [0, 2, 3, 51, 59] (fun g2 => []) (fun g2 => [(4, ⟨some p2, .varX (m2.1 : T_api_Schema) [(5, slv g1.1 m1.length g1.2), (7, slv g2.1 m2.2.length g2.2)]⟩), (5, ⟨g2.1, .row 133 (m2.2 : List T_api_Ref) g2.2⟩)]) (fun g2 => ?_) (fun hm hc => ?_) fun hm hc => ?_
  ·clear hm2
   refine To.next ?_
   refine Wp.seq ?_
   refine Qsr ?_
   refine Qm ?_
   refine Sq.bring 0 rfl ?_
   obtain ⟨y9,hy9,h⟩:=Qbs h
   refine QcO 1 en54 (C_mcase_Codes_Bool hy9) fun q9 => ?_
   refine Qm ?_
   refine Qg1 (r_fa fd33_4) ?_
   refine Qg (fun hb => r_loadX (i := 4) ((Lens.id T_api_Schema).comp le_T_api_Schema_Tables) (r := m2.1.f_Tables) ty28 (look_tc rfl hb) rfl rfl rfl (by rfl)) ?_
   obtain ⟨k1,hk1,h⟩:=Qbs h
   refine Qg (fun hb => r_ias (k := k1) Try.underlying28 ty136 (look_tc rfl hb) (look_int 2) (idx_some (condM_some hk1 hb))) ?_
   refine Qg (fun hb => r_fap le_T_api_Table_Keys fd136_2 (look_tc rfl hb) rfl rfl) ?_
   refine Qg1 (r_loadp ty134) ?_
   refine Qg1 (r_len Try.underlying134) ?_
   refine Qg2 r_eql ?_
   refine Qan ?_
   refine Qnx ?_
   obtain ⟨m3,hm3,h⟩:=Qbs h
   refine Qcm (γ:=(Option Nat × Nat)) [0, 2, 3, 51, 59, 76] (fun g3 => []) (fun g3 => [(4, ⟨some p2, .varX (m3.1 : T_api_Schema) [(5, slv g1.1 m1.length g1.2), (7, slv g3.1 m3.2.length g3.2)]⟩), (5, ⟨g3.1, .row 133 (m3.2 : List T_api_Ref) g3.2⟩)]) (fun g3 => ?_) (fun hm hc => ?_) fun hm hc => ?_
   ·clear hm3
    refine To.next ?_
    refine Wp.seq ?_
    refine Qsr ?_
    refine Qm ?_
    refine Sq.bring 0 rfl ?_
    obtain ⟨y10,hy10,h⟩:=Qbs h
    refine QcO 1 en54 (C_mcase_Codes_Bool hy10) fun q10 => ?_
    refine Qm ?_
    refine Qg1 (r_fa fd33_4) ?_
    refine Qg (fun hb => r_loadX (i := 4) ((Lens.id T_api_Schema).comp le_T_api_Schema_Tables) (r := m3.1.f_Tables) ty28 (look_tc rfl hb) rfl rfl rfl (by rfl)) ?_
    obtain ⟨k2,hk2,h⟩:=Qbs h
    refine Qg (fun hb => r_ias (k := k2) Try.underlying28 ty136 (look_tc rfl hb) (look_int 3) (idx_some (condM_some hk2 hb))) ?_
    refine Qg (fun hb => r_fap le_T_api_Table_Keys fd136_2 (look_tc rfl hb) rfl rfl) ?_
    refine Qg1 (r_loadp ty134) ?_
    refine Qg1 (r_len Try.underlying134) ?_
    refine Qg2 r_eql ?_
    refine Qan ?_
    refine Qnx ?_
    obtain ⟨m4,hm4,h⟩:=Qbs h
    refine Qcm (γ:=(Option Nat × Nat)) [0, 2, 3, 51, 59, 76, 93] (fun g4 => []) (fun g4 => [(4, ⟨some p2, .varX (m4.1 : T_api_Schema) [(5, slv g1.1 m1.length g1.2), (7, slv g4.1 m4.2.length g4.2)]⟩), (5, ⟨g4.1, .row 133 (m4.2 : List T_api_Ref) g4.2⟩)]) (fun g4 => ?_) (fun hm hc => ?_) fun hm hc => ?_
    ·clear hm4
     refine To.next ?_
     refine Qsr ?_
     refine Sq.thaw (β := T_api_Schema) (γ := T_api_Stage) (b' := (({ m4.1 with f_Stages := m1 } : T_api_Schema) : T_api_Schema)) ((Lens.id T_api_Schema).comp le_T_api_Schema_Stages) 4 1 0 rfl rfl rfl rfl rfl rfl ?_
     refine Sq.thaw (β := T_api_Schema) (γ := T_api_Ref) (b' := (({ ({ m4.1 with f_Stages := m1 } : T_api_Schema) with f_Refs := m4.2 } : T_api_Schema) : T_api_Schema)) ((Lens.id T_api_Schema).comp le_T_api_Schema_Refs) 4 5 0 rfl rfl rfl rfl rfl rfl ?_
     refine Sq.fromX 4 rfl ?_
     obtain ⟨z16,hz16,h⟩:=Qbs h
     refine Qn hz16 (r_load (i := 4) (Lens.id T_api_Schema) (r := ({ ({ m4.1 with f_Stages := m1 } : T_api_Schema) with f_Refs := m4.2 } : T_api_Schema)) ty33 (look_t rfl) rfl rfl rfl) ?_
     refine Qs0 7 ty33 ?_
     refine Qnx ?_
     refine Wp.ret ?_
     refine To.bring 0 rfl ?_
     obtain rfl:=some_in h
     exact To.endO1 () (.cons_cons _ (List.nil_sublist _)) rfl rfl (rvo_c (i := 7) ty33 rfl rfl)
    ·have h := cond_t hc hm4
     refine Wp.reg ?_
     refine Q1 (r_fa fd33_7) ?_
     refine Qv (r_loadH (i := 4) (q := 1) (β := T_api_Schema) (γ := T_api_Ref) ty31 (look_t rfl) rfl rfl) ?_
     obtain ⟨z17,hz17,h⟩:=Qbs h
     refine Qn hz17 (r_build (b := ({ (default : T_api_Ref) with f_Table := 4, f_Key := 1, f_ToTable := 1 } : T_api_Ref)) rfl bu133 zr133 (.cons le_T_api_Ref_Table rfl (look_int 4) rfl (.cons le_T_api_Ref_Key rfl (look_int 1) rfl (.cons le_T_api_Ref_ToTable rfl (look_int 1) rfl (.nil))))) ?_
     obtain ⟨z18,hz18,h⟩:=Qbs h
     refine Qn hz18 (r_build (b := ({ (default : T_api_Ref) with f_Table := 4, f_Action := 5, f_ToTable := 1 } : T_api_Ref)) rfl bu133 zr133 (.cons le_T_api_Ref_Table rfl (look_int 4) rfl (.cons le_T_api_Ref_Action rfl (look_int 5) rfl (.cons le_T_api_Ref_ToTable rfl (look_int 1) rfl (.nil))))) ?_
     refine Qbl [z17, z18] Try.underlying31 ty133 zr133 ?_
     obtain ⟨y11,hy11,h⟩:=Qbs h
     refine Qap 5 Try.underlying31 ty133 zr133 hy11 fun key2 cap1 => ?_
     refine Q1 (r_fa fd33_7) ?_
     refine Sq.storeH (i := 4) (γ := T_api_Ref) (b' := (({ m3.1 with f_Refs := [] } : T_api_Schema) : T_api_Schema)) (os' := [(5, slv g1.1 m1.length g1.2), (7, slv key2 y11.length cap1)]) ((Lens.id T_api_Schema).comp le_T_api_Schema_Refs) ty31 (look_t rfl) (look_t rfl) slv_one rfl rfl rfl rfl ?_
     refine Sq.nil ?_
     obtain rfl:=some_in h
     exact Qmt 0 (hm (key2, cap1))
    ·have h := cond_f hc hm4
     refine Wp.skip ?_
     obtain rfl:=some_in h
     exact Qmt 0 (hm (g3.1, g3.2))
   ·have h := cond_t hc hm3
    refine Wp.reg ?_
    refine Q1 (r_fa fd33_7) ?_
    refine Qv (r_loadH (i := 4) (q := 1) (β := T_api_Schema) (γ := T_api_Ref) ty31 (look_t rfl) rfl rfl) ?_
    obtain ⟨z19,hz19,h⟩:=Qbs h
    refine Qn hz19 (r_build (b := ({ (default : T_api_Ref) with f_Table := 3, f_Key := 2, f_ToTable := 1 } : T_api_Ref)) rfl bu133 zr133 (.cons le_T_api_Ref_Table rfl (look_int 3) rfl (.cons le_T_api_Ref_Key rfl (look_int 2) rfl (.cons le_T_api_Ref_ToTable rfl (look_int 1) rfl (.nil))))) ?_
    refine Qbl [z19] Try.underlying31 ty133 zr133 ?_
    obtain ⟨y12,hy12,h⟩:=Qbs h
    refine Qap 5 Try.underlying31 ty133 zr133 hy12 fun key3 cap2 => ?_
    refine Q1 (r_fa fd33_7) ?_
    refine Sq.storeH (i := 4) (γ := T_api_Ref) (b' := (({ m2.1 with f_Refs := [] } : T_api_Schema) : T_api_Schema)) (os' := [(5, slv g1.1 m1.length g1.2), (7, slv key3 y12.length cap2)]) ((Lens.id T_api_Schema).comp le_T_api_Schema_Refs) ty31 (look_t rfl) (look_t rfl) slv_one rfl rfl rfl rfl ?_
    refine Sq.nil ?_
    obtain rfl:=some_in h
    exact Qmt 0 (hm (key3, cap2))
   ·have h := cond_f hc hm3
    refine Wp.skip ?_
    obtain rfl:=some_in h
    exact Qmt 0 (hm (g2.1, g2.2))
  ·have h := cond_t hc hm2
   refine Wp.reg ?_
   refine Q1 (r_fa fd33_7) ?_
   refine Qv (r_loadH (i := 4) (q := 1) (β := T_api_Schema) (γ := T_api_Ref) ty31 (look_t rfl) rfl rfl) ?_
   obtain ⟨z20,hz20,h⟩:=Qbs h
   refine Qn hz20 (r_build (b := ({ (default : T_api_Ref) with f_Table := 2, f_Action := 4, f_ToTable := 1 } : T_api_Ref)) rfl bu133 zr133 (.cons le_T_api_Ref_Table rfl (look_int 2) rfl (.cons le_T_api_Ref_Action rfl (look_int 4) rfl (.cons le_T_api_Ref_ToTable rfl (look_int 1) rfl (.nil))))) ?_
   refine Qbl [z20] Try.underlying31 ty133 zr133 ?_
   obtain ⟨y13,hy13,h⟩:=Qbs h
   refine Qap 5 Try.underlying31 ty133 zr133 hy13 fun key4 cap3 => ?_
   refine Q1 (r_fa fd33_7) ?_
   refine Sq.storeH (i := 4) (γ := T_api_Ref) (b' := (({ ({ ({ z14 with f_Roles := y6.1 } : T_api_Schema) with f_Stages := [] } : T_api_Schema) with f_Refs := [] } : T_api_Schema) : T_api_Schema)) (os' := [(5, slv g1.1 m1.length g1.2), (7, slv key4 y13.length cap3)]) ((Lens.id T_api_Schema).comp le_T_api_Schema_Refs) ty31 (look_t rfl) (look_t rfl) slv_one rfl rfl rfl rfl ?_
   refine Sq.nil ?_
   obtain rfl:=some_in h
   exact Qmt 0 (hm (key4, cap3))
  ·have h := cond_f hc hm2
   refine Wp.skip ?_
   obtain rfl:=some_in h
   exact Qmt 0 (hm (none, 0))
 ·have h := cond_t hc hm1
  refine Wp.reg ?_
  refine Q1 (r_fa fd33_5) ?_
  refine Qv (r_loadH (i := 4) (q := 0) (β := T_api_Schema) (γ := T_api_Stage) ty29 (look_t rfl) rfl rfl) ?_
  refine Qbd bu131 zr131 ({ (default : T_api_Stage) with f_Table := 1 } : T_api_Stage) (Qfl le_T_api_Stage_Table .nil) ?_
  refine Qbl [({ (default : T_api_Stage) with f_Table := 1 } : T_api_Stage)] Try.underlying29 ty131 zr131 ?_
  obtain ⟨y14,hy14,h⟩:=Qbs h
  refine Qap 1 Try.underlying29 ty131 zr131 hy14 fun key5 cap4 => ?_
  refine Q1 (r_fa fd33_5) ?_
  refine Sq.storeH (i := 4) (γ := T_api_Stage) (b' := (({ ({ z14 with f_Roles := y6.1 } : T_api_Schema) with f_Stages := [] } : T_api_Schema) : T_api_Schema)) (os' := [(5, slv key5 y14.length cap4), (7, slv none ([] : List T_api_Ref).length 0)]) ((Lens.id T_api_Schema).comp le_T_api_Schema_Stages) ty29 (look_t rfl) (look_t rfl) slv_one rfl rfl rfl rfl ?_
  refine Sq.nil ?_
  obtain rfl:=some_in h
  exact Qmt 0 (hm (key5, cap4))
 ·have h := cond_f hc hm1
  refine Wp.skip ?_
  obtain rfl:=some_in h
  exact Qmt 0 (hm (key1, 4))
theorem C_cube_Of {x0 : T_api_Schema} {x1 : T_api_Entry}  {r : T_cube_Cube × Bool} (h : L_cube_Of x0 x1 = some r) : Meets Try.prog 129 [VP.of (x0), VP.of (x1)] (VP.tup [VP.of (r.1), VP.of (r.2)]) := by
 unfold L_cube_Of at h
 refine Meets.of Try.func129 rfl Try.ntmps129 rfl fun W A => ?_
 refine Qsr ?_
 refine Qbx fun p1 => ?_
 refine Qbx fun p2 => ?_
 refine Qal zr185 fun p3 => ?_
 refine Qa ?_
 refine Qnr ?_
 refine Ql0 2 ty33 ?_
 refine Q1 (r_fa fd89_0) ?_
 refine Qld 1 le_T_api_Entry_Table ty3 ?_
 obtain ⟨y1,hy1,h⟩:=Qbs h
 refine Qcl en126 (C_check_TableOf hy1) ?_
 refine Qa ?_
 refine Qns ?_
 refine Qsr ?_
 refine Qm ?_
 refine Q2 r_lss ?_
 refine Qnx ?_
 refine Qcd h (fun h=>?_) fun h=>?_
 ·refine Qsr ?_
  refine Qbd bu185 zr185 (default : T_cube_Cube) .nil ?_
  refine Qs0 0 ty185 ?_
  refine Qa ?_
  refine Qnx ?_
  refine Wp.ret ?_
  refine To.ret ?_
  obtain rfl:=some_in h
  exact To.end2 rfl (Qrc 0 ty185) (rv_t rfl)
 ·refine Qkn ?_
  refine Qsr ?_
  refine Qal zr185 fun p4 => ?_
  refine Qns ?_
  refine Qsr ?_
  refine Q1 (r_fa fd33_4) ?_
  refine Qld 3 le_T_api_Schema_Tables ty28 ?_
  refine Qm ?_
  obtain ⟨k1,hk1,h⟩:=Qbs h
  refine Qix hk1 Try.underlying28 ty136 ?_
  refine Qfp le_T_api_Table_Keys fd136_2 ?_
  refine Q1 (r_loadp ty134) ?_
  refine Q1 (r_len Try.underlying134) ?_
  refine Qm ?_
  refine Qnx ?_
  refine Wp.block ?_
  obtain ⟨e1,hl,h⟩:=Qbs h
  refine Qlp (γ:=Unit) (δ:=Unit) hl [0, 1, 2, 3, 4, 5, 6, 7, 16, 23, 24] (fun s1 g1 => [(25, VP.of (s1.1))]) (fun s1 g1 => [(0, ⟨some p4, .var (s1.2 : T_cube_Cube)⟩)]) (fun q1 => Sum.elim (fun q1 => Exit.exit 0) (fun q1 => Exit.ret) q1) (fun q1 g1 => Sum.elim (fun q1 => [(25, VP.of (q1.1)), (26, VP.of (q1.2.1))]) (fun q1 => [(8, VP.of (q1.1)), (10, VP.of (q1.2.1)), (25, VP.of (q1.2.2.1)), (26, VP.of (q1.2.2.2.1)), (51, VP.of (q1.2.2.2.2.1))]) q1) (fun q1 g1 => Sum.elim (fun q1 => [(0, ⟨some p4, .var (q1.2.2 : T_cube_Cube)⟩)]) (fun q1 => [(0, ⟨some p4, .var (q1.2.2.2.2.2 : T_cube_Cube)⟩)]) q1) () (fun s1 r h g1 => ?_) fun g1 => ?_
  ·clear hl
   refine Qsr ?_
   refine Q2 r_lss ?_
   refine Qns ?_
   refine Qcd h (fun h=>?_) fun h=>?_
   ·refine Qkn ?_
    refine Wp.seq ?_
    refine Wp.block ?_
    refine Qsr ?_
    refine Qm ?_
    obtain ⟨k2,hk2,h⟩:=Qbs h
    refine Qix hk2 Try.underlying134 ty163 ?_
    refine Q1 (r_loadp ty163) ?_
    refine Qal zr163 fun p5 => ?_
    refine Qa ?_
    refine Qs0 0 ty163 ?_
    refine Qnr ?_
    refine Ql0 4 ty33 ?_
    refine Q1 (r_fa fd163_1) ?_
    refine Qld 0 le_T_api_Key_Field ty3 ?_
    obtain ⟨y2,hy2,h⟩:=Qbs h
    refine Qcl en156 (C_check_FieldOf hy2) ?_
    refine Qa ?_
    refine Qns ?_
    refine Qsr ?_
    refine Q1 (r_fa fd163_2) ?_
    refine Qld 0 le_T_api_Key_Kind ty3 ?_
    refine Q2 r_eql ?_
    refine Qm ?_
    refine Qg1 r_move ?_
    refine Qg2 r_lss ?_
    obtain ⟨z1,hz1,h⟩:=Qbs h
    refine Qn hz1 (r_or (look_t rfl) (look_t rfl) (fun h => h)) ?_
    refine Qm ?_
    refine Qg1 r_move ?_
    refine Qg1 (r_fa fd89_1) ?_
    refine Qg (fun hb => r_load (i := 3) ((Lens.id T_api_Entry).comp le_T_api_Entry_Matches) (r := x1.f_Matches) ty87 (look_tc rfl hb) rfl rfl rfl) ?_
    refine Qg1 (r_len Try.underlying87) ?_
    refine Qg2 r_geq ?_
    refine Qor ?_
    refine Qm ?_
    refine Qg1 r_move ?_
    refine Qg2 r_geq ?_
    obtain ⟨z2,hz2,h⟩:=Qbs h
    refine Qn hz2 (r_or (look_t rfl) (look_t rfl) (fun h => h)) ?_
    refine Qnx ?_
    refine Qcd h (fun h=>?_) fun h=>?_
    ·refine Qsr ?_
     refine Qbd bu185 zr185 (default : T_cube_Cube) .nil ?_
     refine Qs0 2 ty185 ?_
     refine Qa ?_
     refine Qnx ?_
     refine Wp.ret ?_
     refine To.ret ?_
     refine To.bret ?_
     refine To.ret ?_
     obtain rfl:=some_in h
     exact Qlv () 1
    ·refine Qkn ?_
     refine Wp.seq ?_
     obtain ⟨k3,hk3,h⟩:=Qbs h
     obtain ⟨k4,hk4,h⟩:=Qbs h
     obtain ⟨y3,hy3,h⟩:=Qbs h
     obtain ⟨k5,hk5,h⟩:=Qbs h
     refine Wp.draw mixed 17 ((some 53) :: (some 54) :: (some 55) :: (some 56) :: (some 57) :: (some 58) :: (some 59) :: (some 60) :: (some 61) :: (some 62) :: (some 63) :: (some 64) :: (some 65) :: (some 66) :: (some 67) :: (some 68) :: (some 69) :: []) ([] :: [] :: [1] :: [] :: [2, 3] :: [4] :: [] :: [6] :: [] :: [8] :: [] :: [9, 10] :: [11] :: [12] :: [5, 7, 13] :: [] :: [0, 15] :: []) (.val _ :: .val _ :: .val _ :: .val _ :: .val _ :: .val _ :: .val _ :: .val _ :: .val _ :: .val _ :: .val _ :: .val _ :: .val _ :: .val _ :: .val _ :: .val _ :: .val _ :: []) (false :: false :: false :: false :: false :: false :: false :: false :: false :: false :: false :: false :: false :: false :: false :: false :: false :: []) (by kernel_rfl) rfl rfl rfl (fun ps1 => ⟨Hm, H1 (r_fa fd89_1), Hld 3 le_T_api_Entry_Matches ty87, Hm, Hix hk3 Try.underlying87 ty104, H1 (r_loadp ty104), H1 (r_fa fd163_2), Hld 0 le_T_api_Key_Kind ty3, H1 (r_fa fd33_0), Hld 4 le_T_api_Schema_Fields ty24, Hm, Hix hk4 Try.underlying24 ty123, Hfp le_T_api_Field_Bits fd123_2, H1 (r_loadp ty3), Hcl en157 (C_cube_fixed hy3), H1 (r_fa fd185_1), Hv fun L' hL => r_ia (k := k5) ar81 (look_t rfl) (look_t rfl) (idx_some hk5), trivial⟩) fun ps1 => ?_
     refine Qst 1 (((Lens.id T_cube_Cube).comp le_T_cube_Cube_Mask).comp (Lens.idx (α := T_api_Value) 4 k5 (idx_some hk5).1)) ty47 ?_
     refine Qnx ?_
     obtain ⟨k6,hk6,h⟩:=Qbs h
     obtain ⟨k7,hk7,h⟩:=Qbs h
     obtain ⟨y4,hy4,h⟩:=Qbs h
     obtain ⟨k8,hk8,h⟩:=Qbs h
     refine Wp.draw mixed 14 [some 70, some 71, some 72, some 73, some 74, some 75, some 76, some 77, some 78, some 79, some 80, some 81, some 82, some 83] [[], [], [1], [], [2, 3], [4], [5], [], [], [7, 8], [9], [6, 10], [], [0, 12]] [.val _, .val _, .val _, .val _, .val _, .val _, .val _, .val _, .val _, .val _, .val _, .val _, .val _, .val _] [false, false, false, false, false, false, false, false, false, false, false, false, false, false] (by kernel_rfl) rfl rfl rfl (fun ps2 => ⟨Hm, H1 (r_fa fd89_1), Hld 3 le_T_api_Entry_Matches ty87, Hm, Hix hk6 Try.underlying87 ty104, Hfp le_T_api_Match_Value fd104_1, H1 (r_loadp ty47), Hm, H1 (r_fa fd185_1), Hv fun L' hL => r_ia (k := k7) ar81 (look_t rfl) (look_t rfl) (idx_some hk7), Hld 1 (((Lens.id T_cube_Cube).comp le_T_cube_Cube_Mask).comp (Lens.idx (α := T_api_Value) 4 k7 (idx_some hk7).1)) ty47, Hcl en158 (C_value_And hy4), H1 (r_fa fd185_0), Hv fun L' hL => r_ia (k := k8) ar81 (look_t rfl) (look_t rfl) (idx_some hk8), trivial⟩) fun ps2 => ?_
     obtain ⟨z3,hz3,h⟩:=Qbs h
     refine Qsn 1 (((Lens.id T_cube_Cube).comp le_T_cube_Cube_Value).comp (Lens.idx (α := T_api_Value) 4 k8 (idx_some hk8).1)) ty47 (hb := by exact hz3) ?_
     refine Sq.nil ?_
     refine To.bnorm ?_
     refine To.next ?_
     refine Wp.reg ?_
     refine Q2 r_add ?_
     refine Qm ?_
     refine Sq.nil ?_
     obtain rfl:=some_in h
     exact Qrd () 1
   ·refine Wp.exit ?_
    refine To.exit ?_
    obtain rfl:=some_in h
    exact Qlv () 0
  ·clear hl
   rcases e1 with e1 | e1
   ·simp only [Sum.elim_inl] at h
    refine To.bexit ?_
    refine To.next ?_
    refine Qsr ?_
    refine Ql0 0 ty185 ?_
    refine Qs0 1 ty185 ?_
    refine Qa ?_
    refine Qnx ?_
    refine Wp.ret ?_
    obtain rfl:=some_in h
    exact To.end2 rfl (Qrc 1 ty185) (rv_t rfl)
   ·simp only [Sum.elim_inr] at h
    refine To.bret ?_
    refine To.ret ?_
    obtain rfl:=some_in h
    exact To.end2 rfl (Qrc 1 ty185) (rv_t rfl)
theorem C_entry_Beats {x0 : T_api_Schema} {x1 : T_api_Installed} {x2 : T_api_Installed}  {r : Bool} (h : L_entry_Beats x0 x1 x2 = some r) : Meets Try.prog 119 [VP.of (x0), VP.of (x1), VP.of (x2)] (VP.of (r)) := by
 unfold L_entry_Beats at h
 refine Meets.of Try.func119 rfl Try.ntmps119 rfl fun W A => ?_
 refine Qsr ?_
 refine Qbx fun p1 => ?_
 refine Qbx fun p2 => ?_
 refine Qbx fun p3 => ?_
 refine Qa ?_
 refine Qns ?_
 obtain ⟨y1,hy1,h⟩:=Qbs h
 obtain ⟨y2,hy2,h⟩:=Qbs h
 obtain ⟨y3,hy3,h⟩:=Qbs h
 obtain ⟨y4,hy4,h⟩:=Qbs h
 obtain ⟨y5,hy5,h⟩:=Qbs h
 obtain ⟨y6,hy6,h⟩:=Qbs h
 refine Wp.draw mixed 24 ((some 7) :: (some 8) :: (some 9) :: (some 10) :: (some 11) :: (some 12) :: (some 13) :: (some 14) :: (some 15) :: (some 16) :: (some 17) :: (some 18) :: (some 19) :: (some 20) :: (some 21) :: (some 22) :: (some 23) :: (some 24) :: (some 25) :: (some 26) :: (some 27) :: (some 28) :: (some 29) :: (some 30) :: []) ([] :: [0] :: [1] :: [] :: [3] :: [4] :: [2, 5] :: [] :: [] :: [8] :: [7, 9] :: [] :: [] :: [12] :: [11, 13] :: [10, 14] :: [] :: [16] :: [] :: [18] :: [17, 19] :: [6, 15, 20] :: [21] :: [22] :: []) (.val _ :: .val _ :: .val _ :: .val _ :: .val _ :: .val _ :: .val _ :: .val _ :: .val _ :: .val _ :: .val _ :: .val _ :: .val _ :: .val _ :: .val _ :: .val _ :: .val _ :: .val _ :: .val _ :: .val _ :: .val _ :: .val _ :: .val _ :: .val _ :: []) (false :: false :: false :: false :: false :: false :: false :: false :: false :: false :: false :: false :: false :: false :: false :: false :: false :: false :: false :: false :: false :: false :: false :: false :: []) (by kernel_rfl) rfl rfl rfl (fun ps1 => ⟨H1 (r_fa fd92_0), H1 (r_fa fd89_2), Hld 1 (le_T_api_Installed_Entry.comp le_T_api_Entry_Priority) ty3, H1 (r_fa fd92_0), H1 (r_fa fd89_2), Hld 0 (le_T_api_Installed_Entry.comp le_T_api_Entry_Priority) ty3, Hcl en145 (C_cmp_Compare_int hy1), Hl0 2 ty33, H1 (r_fa fd92_0), Hld 1 le_T_api_Installed_Entry ty89, Hcl en146 (C_entry_Prefix hy2), Hl0 2 ty33, H1 (r_fa fd92_0), Hld 0 le_T_api_Installed_Entry ty89, Hcl en146 (C_entry_Prefix hy3), Hcl en145 (C_cmp_Compare_int hy4), H1 (r_fa fd92_1), Hld 1 le_T_api_Installed_Number ty3, H1 (r_fa fd92_1), Hld 0 le_T_api_Installed_Number ty3, Hcl en145 (C_cmp_Compare_int hy5), Hv fun L' hL => r_bsl (r := [y1, y4, y5]) Try.underlying64 ty3 zr3 rfl rfl (.cons (by simp) (look_t rfl) (.cons (by simp) (look_t rfl) (.cons (by simp) (look_t rfl) (.nil)))), Hcl en144 (C_entry_first hy6), H2 r_gtr, trivial⟩) fun ps1 => ?_
 refine Qa ?_
 refine Qnx ?_
 refine Wp.ret ?_
 obtain rfl:=some_in h
 exact Qe1
end Go.Proofs.Ytodajdohokmjnaa
