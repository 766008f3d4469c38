/-
  Each function meets its functional program. Conditions: none.
-/
import Derived.Test.YtodajdohokmjnaaMc1
import Derived.Test.YtodajdohokmjnaaMc0
import Derived.Test.YtodajdohokmjnaaMc2
namespace Go.Proofs.Ytodajdohokmjnaa
open Go Gv
set_option linter.unusedVariables false
set_option linter.unusedSimpArgs false
set_option maxRecDepth 100000
set_option maxHeartbeats 2000000
theorem C_mcase_Codes_tables {x0 : T_mcase_Codes} {pp0 : Nat} {r : (List T_api_Table) × T_mcase_Codes} (h : L_mcase_Codes_tables x0 = some r) : MeetsO Try.prog 52 [VP.eq (.pointer (some ⟨pp0, 0, none⟩))] [⟨some pp0, .var (x0 : T_mcase_Codes)⟩] (δ := Unit) (fun d => VP.of (r.1)) (fun d => [⟨some pp0, .var (r.2 : T_mcase_Codes)⟩]) := by
 unfold L_mcase_Codes_tables at h
 refine MeetsO.of Try.func52 rfl Try.ntmps52 rfl fun W A => ?_
 refine Qsr ?_
 refine Qv (r_asg (look_nil (α := T_api_Table))) ?_
 refine Qnr ?_
 obtain ⟨z1,hz1,h⟩:=Qbs h
 refine Qn hz1 (r_build (b := { f_Name := ByteArray.mk #[97], f_Field := 4, f_Kind := 1 : T_api_Key }) rfl bu163 zr163 (.cons le_T_api_Key_Name rfl (look_str (ByteArray.mk #[97])) rfl (.cons le_T_api_Key_Field rfl (look_int 4) rfl (.cons le_T_api_Key_Kind rfl (look_int 1) rfl (.nil))))) ?_
 refine Qbl [z1] Try.underlying134 ty163 zr163 ?_
 refine Qbl ([1, 2, 4] : List Int) Try.underlying64 ty3 zr3 ?_
 refine Qm ?_
 refine Sq.bring 0 rfl ?_
 obtain ⟨y1,hy1,h⟩:=Qbs h
 refine QcO 1 en49 (C_mcase_Codes_Next hy1) fun q1 => ?_
 refine Q2 r_add ?_
 refine Qm ?_
 refine Sq.bring 0 rfl ?_
 obtain ⟨y2,hy2,h⟩:=Qbs h
 refine QcO 1 en49 (C_mcase_Codes_Next hy2) fun q2 => ?_
 refine Q2 r_add ?_
 obtain ⟨z2,hz2,h⟩:=Qbs h
 refine Qn hz2 (r_build (b := ({ (default : T_api_Table) with f_ID := 1, f_Name := ByteArray.mk #[112, 111, 114, 116, 115], f_Keys := [z1], f_Actions := ([1, 2, 4] : List Int), f_Default := w64 (1 + y1.1), f_Size := w64 (2 + y2.1) } : T_api_Table)) rfl bu136 zr136 (.cons le_T_api_Table_ID rfl (look_int 1) rfl (.cons le_T_api_Table_Name rfl (look_str (ByteArray.mk #[112, 111, 114, 116, 115])) rfl (.cons le_T_api_Table_Keys rfl (look_t rfl) rfl (.cons le_T_api_Table_Actions rfl (look_t rfl) rfl (.cons le_T_api_Table_Default rfl (look_t rfl) rfl (.cons le_T_api_Table_Size rfl (look_t rfl) rfl (.nil)))))))) ?_
 refine Qal zr136 fun p1 => ?_
 refine Qs0 0 ty136 ?_
 refine Qnr ?_
 obtain ⟨z3,hz3,h⟩:=Qbs h
 refine Qn hz3 (r_build (b := { f_Name := ByteArray.mk #[100], f_Field := 7, f_Kind := 2 : T_api_Key }) rfl bu163 zr163 (.cons le_T_api_Key_Name rfl (look_str (ByteArray.mk #[100])) rfl (.cons le_T_api_Key_Field rfl (look_int 7) rfl (.cons le_T_api_Key_Kind rfl (look_int 2) rfl (.nil))))) ?_
 refine Sq.bslO (α := T_api_Key) (r := [z3]) Try.underlying134 ty163 zr163 rfl rfl (.cons (by simp) (look_t rfl) (.nil)) rfl fun key1 => ?_
 refine Qbl ([1, 2, 3, 4] : List Int) Try.underlying64 ty3 zr3 ?_
 refine Qm ?_
 refine Sq.bring 2 rfl ?_
 obtain ⟨y3,hy3,h⟩:=Qbs h
 refine QcO 1 en49 (C_mcase_Codes_Next hy3) fun q3 => ?_
 refine Q2 r_add ?_
 refine Qv (r_buildX (b := ({ (default : T_api_Table) with f_ID := 2, f_Name := ByteArray.mk #[114, 111, 117, 116, 101, 115], f_Actions := ([1, 2, 3, 4] : List Int), f_Default := 2, f_Size := w64 (3 + y3.1) } : T_api_Table)) [] zh136_n rfl bu136 zr136 (.cons le_T_api_Table_ID rfl (look_int 2) rfl (by rfl) (.cons le_T_api_Table_Name rfl (look_str (ByteArray.mk #[114, 111, 117, 116, 101, 115])) rfl (by rfl) (.hole le_T_api_Table_Keys rfl (look_t rfl) slv_one rfl rfl (.cons le_T_api_Table_Actions rfl (look_t rfl) rfl (by rfl) (.cons le_T_api_Table_Default rfl (look_int 2) rfl (by rfl) (.cons le_T_api_Table_Size rfl (look_t rfl) rfl (by rfl) (.nil)))))))) ?_
 refine Sq.allocX (z := (default : T_api_Table)) [2] zh136_2 zr136 rfl fun p2 => ?_
 refine Sq.own (α := T_api_Key) 163 ?_
 refine Sq.storeW (i := 1) ty136 (look_t rfl) (look_t rfl) rfl ?_
 refine Qns ?_
 refine Qsr ?_
 refine Qm ?_
 refine Sq.bring 2 rfl ?_
 obtain ⟨y4,hy4,h⟩:=Qbs h
 refine QcO 1 en54 (C_mcase_Codes_Bool hy4) fun q4 => ?_
 refine Qnx ?_
 obtain ⟨m1,hm1,h⟩:=Qbs h
 refine Qcm (γ:=(Option Nat × Nat)) [0, 2, 3, 4, 28] (fun g1 => []) (fun g1 => [(2, ⟨some p2, .varX (m1.1 : T_api_Table) [(2, slv g1.1 m1.2.length g1.2)]⟩), (3, ⟨g1.1, .row 163 (m1.2 : List T_api_Key) g1.2⟩)]) (fun g1 => ?_) (fun hm hc => ?_) fun hm hc => ?_
 ·clear hm1
  refine To.next ?_
  refine Qsr ?_
  obtain ⟨z4,hz4,h⟩:=Qbs h
  refine Qn hz4 (r_build (b := { f_Name := ByteArray.mk #[101], f_Field := 6, f_Kind := 3 : T_api_Key }) rfl bu163 zr163 (.cons le_T_api_Key_Name rfl (look_str (ByteArray.mk #[101])) rfl (.cons le_T_api_Key_Field rfl (look_int 6) rfl (.cons le_T_api_Key_Kind rfl (look_int 3) rfl (.nil))))) ?_
  obtain ⟨z5,hz5,h⟩:=Qbs h
  refine Qn hz5 (r_build (b := { f_Name := ByteArray.mk #[97], f_Field := 4, f_Kind := 3 : T_api_Key }) rfl bu163 zr163 (.cons le_T_api_Key_Name rfl (look_str (ByteArray.mk #[97])) rfl (.cons le_T_api_Key_Field rfl (look_int 4) rfl (.cons le_T_api_Key_Kind rfl (look_int 3) rfl (.nil))))) ?_
  refine Sq.bslO (α := T_api_Key) (r := [z4, z5]) Try.underlying134 ty163 zr163 rfl rfl (.cons (by simp) (look_t rfl) (.cons (by simp) (look_t rfl) (.nil))) rfl fun key2 => ?_
  refine Qbl ([1, 2, 3, 5, 6] : List Int) Try.underlying64 ty3 zr3 ?_
  refine Qm ?_
  refine Sq.bring 1 rfl ?_
  obtain ⟨y5,hy5,h⟩:=Qbs h
  refine QcO 1 en49 (C_mcase_Codes_Next hy5) fun q5 => ?_
  refine Q2 r_add ?_
  refine Qv (r_buildX (b := ({ (default : T_api_Table) with f_ID := 3, f_Name := ByteArray.mk #[97, 99, 108], f_Actions := ([1, 2, 3, 5, 6] : List Int), f_Default := 1, f_Size := w64 (4 + y5.1) } : T_api_Table)) [] zh136_n rfl bu136 zr136 (.cons le_T_api_Table_ID rfl (look_int 3) rfl (by rfl) (.cons le_T_api_Table_Name rfl (look_str (ByteArray.mk #[97, 99, 108])) rfl (by rfl) (.hole le_T_api_Table_Keys rfl (look_t rfl) slv_one rfl rfl (.cons le_T_api_Table_Actions rfl (look_t rfl) rfl (by rfl) (.cons le_T_api_Table_Default rfl (look_int 1) rfl (by rfl) (.cons le_T_api_Table_Size rfl (look_t rfl) rfl (by rfl) (.nil)))))))) ?_
  refine Sq.allocX (z := (default : T_api_Table)) [2] zh136_2 zr136 rfl fun p3 => ?_
  refine Sq.own (α := T_api_Key) 163 ?_
  refine Sq.storeW (i := 1) ty136 (look_t rfl) (look_t rfl) rfl ?_
  refine Qns ?_
  refine Qsr ?_
  refine Qm ?_
  refine Sq.bring 2 rfl ?_
  obtain ⟨y6,hy6,h⟩:=Qbs h
  refine QcO 1 en54 (C_mcase_Codes_Bool hy6) fun q6 => ?_
  refine Qnx ?_
  obtain ⟨m2,hm2,h⟩:=Qbs h
  refine Qcm (γ:=(Option Nat × Nat)) [0, 2, 3, 4, 5, 28, 44] (fun g2 => []) (fun g2 => [(2, ⟨some p3, .varX (m2.1 : T_api_Table) [(2, slv g2.1 m2.2.length g2.2)]⟩), (3, ⟨g2.1, .row 163 (m2.2 : List T_api_Key) g2.2⟩)]) (fun g2 => ?_) (fun hm hc => ?_) fun hm hc => ?_
  ·clear hm2
   refine To.next ?_
   refine Qsr ?_
   obtain ⟨z6,hz6,h⟩:=Qbs h
   refine Qn hz6 (r_build (b := { f_Name := ByteArray.mk #[102], f_Field := 8, f_Kind := 4 : T_api_Key }) rfl bu163 zr163 (.cons le_T_api_Key_Name rfl (look_str (ByteArray.mk #[102])) rfl (.cons le_T_api_Key_Field rfl (look_int 8) rfl (.cons le_T_api_Key_Kind rfl (look_int 4) rfl (.nil))))) ?_
   refine Sq.bslO (α := T_api_Key) (r := [z6]) Try.underlying134 ty163 zr163 rfl rfl (.cons (by simp) (look_t rfl) (.nil)) rfl fun key3 => ?_
   refine Qbl ([1, 3, 5] : List Int) Try.underlying64 ty3 zr3 ?_
   refine Qv (r_build (b := ({ (default : T_api_Value) with f_Lo := 7#64 } : T_api_Value)) rfl bu47 zr47 (.cons le_T_api_Value_Lo rfl (look_u64 7 rfl) rfl (.nil))) ?_
   refine Qbl [({ (default : T_api_Value) with f_Lo := 7#64 } : T_api_Value)] Try.underlying72 ty47 zr47 ?_
   refine Qm ?_
   refine Sq.bring 1 rfl ?_
   obtain ⟨y7,hy7,h⟩:=Qbs h
   refine QcO 1 en49 (C_mcase_Codes_Next hy7) fun q7 => ?_
   refine Q2 r_add ?_
   refine Qv (r_buildX (b := ({ (default : T_api_Table) with f_ID := 4, f_Name := ByteArray.mk #[115, 112, 97, 110, 115], f_Actions := ([1, 3, 5] : List Int), f_Default := 3, f_DefaultArgs := [({ (default : T_api_Value) with f_Lo := 7#64 } : T_api_Value)], f_Size := w64 (3 + y7.1) } : T_api_Table)) [] zh136_n rfl bu136 zr136 (.cons le_T_api_Table_ID rfl (look_int 4) rfl (by rfl) (.cons le_T_api_Table_Name rfl (look_str (ByteArray.mk #[115, 112, 97, 110, 115])) rfl (by rfl) (.hole le_T_api_Table_Keys rfl (look_t rfl) slv_one rfl rfl (.cons le_T_api_Table_Actions rfl (look_t rfl) rfl (by rfl) (.cons le_T_api_Table_Default rfl (look_int 3) rfl (by rfl) (.cons le_T_api_Table_DefaultArgs rfl (look_t rfl) rfl (by rfl) (.cons le_T_api_Table_Size rfl (look_t rfl) rfl (by rfl) (.nil))))))))) ?_
   refine Sq.allocX (z := (default : T_api_Table)) [2] zh136_2 zr136 rfl fun p4 => ?_
   refine Sq.own (α := T_api_Key) 163 ?_
   refine Sq.storeW (i := 1) ty136 (look_t rfl) (look_t rfl) rfl ?_
   refine Qns ?_
   refine Qsr ?_
   refine Qm ?_
   refine Sq.bring 2 rfl ?_
   obtain ⟨y8,hy8,h⟩:=Qbs h
   refine QcO 1 en54 (C_mcase_Codes_Bool hy8) fun q8 => ?_
   refine Qnx ?_
   obtain ⟨m3,hm3,h⟩:=Qbs h
   refine Qcm (γ:=(Option Nat × Nat)) [0, 2, 3, 4, 5, 6, 28, 44, 61] (fun g3 => []) (fun g3 => [(2, ⟨some p4, .varX (m3.1 : T_api_Table) [(2, slv g3.1 m3.2.length g3.2)]⟩), (3, ⟨g3.1, .row 163 (m3.2 : List T_api_Key) g3.2⟩)]) (fun g3 => ?_) (fun hm hc => ?_) fun hm hc => ?_
   ·clear hm3
    refine To.next ?_
    refine Qsr ?_
    refine Ql0 10 ty136 ?_
    refine Sq.thaw (β := T_api_Table) (γ := T_api_Key) (b' := (({ m1.1 with f_Keys := m1.2 } : T_api_Table) : T_api_Table)) ((Lens.id T_api_Table).comp le_T_api_Table_Keys) 8 9 0 rfl rfl rfl rfl rfl rfl ?_
    refine Sq.fromX 8 rfl ?_
    refine Ql0 8 ty136 ?_
    refine Sq.thaw (β := T_api_Table) (γ := T_api_Key) (b' := (({ m2.1 with f_Keys := m2.2 } : T_api_Table) : T_api_Table)) ((Lens.id T_api_Table).comp le_T_api_Table_Keys) 5 6 0 rfl rfl rfl rfl rfl rfl ?_
    refine Sq.fromX 5 rfl ?_
    refine Ql0 5 ty136 ?_
    refine Sq.thaw (β := T_api_Table) (γ := T_api_Key) (b' := (({ m3.1 with f_Keys := m3.2 } : T_api_Table) : T_api_Table)) ((Lens.id T_api_Table).comp le_T_api_Table_Keys) 2 3 0 rfl rfl rfl rfl rfl rfl ?_
    refine Sq.fromX 2 rfl ?_
    refine Ql0 2 ty136 ?_
    obtain ⟨z7,hz7,h⟩:=Qbs h
    refine Sq.bslN (α := T_api_Table) (r0 := [z2, ({ m1.1 with f_Keys := m1.2 } : T_api_Table), ({ m2.1 with f_Keys := m2.2 } : T_api_Table), ({ m3.1 with f_Keys := m3.2 } : T_api_Table)]) (r := z7) Try.underlying28 ty136 zr136 rfl rfl (.cons (by simp) (look_t rfl) (.cons (by simp) (look_t rfl) (.cons (by simp) (look_t rfl) (.cons (by simp) (look_t rfl) (.nil))))) (some_in hz7) rfl fun key4 => ?_
    refine Qa ?_
    refine Qnr ?_
    obtain ⟨z8,hz8,h⟩:=Qbs h
    refine Qn hz8 (r_bsl (r := [ByteArray.mk #[], ByteArray.mk #[97, 32, 33, 61, 32, 48], ByteArray.mk #[97, 32, 60, 32, 49, 52, 32, 38, 38, 32, 97, 32, 33, 61, 32, 51]]) Try.underlying203 ty9 zr9 rfl rfl (.cons (by simp) (look_str (ByteArray.mk #[])) (.cons (by simp) (look_str (ByteArray.mk #[97, 32, 33, 61, 32, 48])) (.cons (by simp) (look_str (ByteArray.mk #[97, 32, 60, 32, 49, 52, 32, 38, 38, 32, 97, 32, 33, 61, 32, 51])) (.nil))))) ?_
    obtain ⟨z9,hz9,h⟩:=Qbs h
    refine Qn hz9 (r_bsl (r := [ByteArray.mk #[], ByteArray.mk #[100, 58, 58, 112, 114, 101, 102, 105, 120, 95, 108, 101, 110, 103, 116, 104, 32, 62, 61, 32, 56], ByteArray.mk #[100, 58, 58, 112, 114, 101, 102, 105, 120, 95, 108, 101, 110, 103, 116, 104, 32, 61, 61, 32, 51, 50, 32, 45, 62, 32, 100, 58, 58, 118, 97, 108, 117, 101, 32, 62, 32, 48, 120, 102, 102]]) Try.underlying203 ty9 zr9 rfl rfl (.cons (by simp) (look_str (ByteArray.mk #[])) (.cons (by simp) (look_str (ByteArray.mk #[100, 58, 58, 112, 114, 101, 102, 105, 120, 95, 108, 101, 110, 103, 116, 104, 32, 62, 61, 32, 56])) (.cons (by simp) (look_str (ByteArray.mk #[100, 58, 58, 112, 114, 101, 102, 105, 120, 95, 108, 101, 110, 103, 116, 104, 32, 61, 61, 32, 51, 50, 32, 45, 62, 32, 100, 58, 58, 118, 97, 108, 117, 101, 32, 62, 32, 48, 120, 102, 102])) (.nil))))) ?_
    obtain ⟨z10,hz10,h⟩:=Qbs h
    refine Qn hz10 (r_bsl (r := [ByteArray.mk #[], ByteArray.mk #[112, 114, 105, 111, 114, 105, 116, 121, 32, 60, 32, 49, 48, 48, 32, 38, 38, 32, 40, 101, 58, 58, 109, 97, 115, 107, 32, 33, 61, 32, 48, 32, 124, 124, 32, 97, 58, 58, 109, 97, 115, 107, 32, 33, 61, 32, 48, 41], ByteArray.mk #[101, 58, 58, 109, 97, 115, 107, 32, 61, 61, 32, 48, 32, 45, 62, 32, 112, 114, 105, 111, 114, 105, 116, 121, 32, 62, 32, 53]]) Try.underlying203 ty9 zr9 rfl rfl (.cons (by simp) (look_str (ByteArray.mk #[])) (.cons (by simp) (look_str (ByteArray.mk #[112, 114, 105, 111, 114, 105, 116, 121, 32, 60, 32, 49, 48, 48, 32, 38, 38, 32, 40, 101, 58, 58, 109, 97, 115, 107, 32, 33, 61, 32, 48, 32, 124, 124, 32, 97, 58, 58, 109, 97, 115, 107, 32, 33, 61, 32, 48, 41])) (.cons (by simp) (look_str (ByteArray.mk #[101, 58, 58, 109, 97, 115, 107, 32, 61, 61, 32, 48, 32, 45, 62, 32, 112, 114, 105, 111, 114, 105, 116, 121, 32, 62, 32, 53])) (.nil))))) ?_
    obtain ⟨z11,hz11,h⟩:=Qbs h
    refine Qn hz11 (r_bsl (r := [ByteArray.mk #[], ByteArray.mk #[102, 58, 58, 104, 105, 103, 104, 32, 45, 32, 102, 58, 58, 108, 111, 119, 32, 60, 61, 32, 48, 120, 49, 48, 48], ByteArray.mk #[33, 40, 102, 58, 58, 108, 111, 119, 32, 61, 61, 32, 48, 32, 38, 38, 32, 102, 58, 58, 104, 105, 103, 104, 32, 62, 32, 49, 48, 48, 48, 41]]) Try.underlying203 ty9 zr9 rfl rfl (.cons (by simp) (look_str (ByteArray.mk #[])) (.cons (by simp) (look_str (ByteArray.mk #[102, 58, 58, 104, 105, 103, 104, 32, 45, 32, 102, 58, 58, 108, 111, 119, 32, 60, 61, 32, 48, 120, 49, 48, 48])) (.cons (by simp) (look_str (ByteArray.mk #[33, 40, 102, 58, 58, 108, 111, 119, 32, 61, 61, 32, 48, 32, 38, 38, 32, 102, 58, 58, 104, 105, 103, 104, 32, 62, 32, 49, 48, 48, 48, 41])) (.nil))))) ?_
    refine Qbl [z8, z9, z10, z11] Try.underlying204 ty203 zr203 ?_
    refine Qa ?_
    refine Qns ?_
    refine Qsr ?_
    refine Qm ?_
    refine Qv (r_lenO (i := 0) Try.underlying28 (look_t rfl) rfl rfl) ?_
    refine Qm ?_
    refine Qnx ?_
    refine Wp.block ?_
    obtain ⟨e1,hl,h⟩:=Qbs h
    refine Qlp (γ:=(Option Nat × Nat)) (δ:=(Option Nat × Nat)) hl [0, 2, 3, 4, 5, 6, 8, 28, 44, 61, 80] (fun s1 g4 => [(7, VP.eq (slv g4.1 s1.2.1.length g4.2)), (81, VP.of (s1.1))]) (fun s1 g4 => [(0, ⟨g4.1, .row 136 (s1.2.1 : List T_api_Table) g4.2⟩), (1, ⟨some pp0, .var (s1.2.2 : T_mcase_Codes)⟩)]) (fun q9 => Exit.exit 0) (fun q9 g4 => [(7, VP.eq (slv g4.1 q9.2.2.1.length g4.2)), (81, VP.of (q9.1)), (82, VP.of (q9.2.1))]) (fun q9 g4 => [(0, ⟨g4.1, .row 136 (q9.2.2.1 : List T_api_Table) g4.2⟩), (1, ⟨some pp0, .var (q9.2.2.2 : T_mcase_Codes)⟩)]) (key4, 4) (fun s1 r h g4 => ?_) fun g4 => ?_
    ·clear hl
     refine Qsr ?_
     refine Q2 r_lss ?_
     refine Qns ?_
     refine Qcd h (fun h=>?_) fun h=>?_
     ·refine Qkn ?_
      refine Wp.seq ?_
      refine Wp.block ?_
      refine Qsr ?_
      refine Qm ?_
      refine Qa ?_
      refine Qnx ?_
      obtain ⟨k1,hk1,h⟩:=Qbs h
      obtain ⟨y9,hy9,h⟩:=Qbs h
      obtain ⟨k2,hk2,h⟩:=Qbs h
      obtain ⟨k3,hk3,h⟩:=Qbs h
      obtain ⟨z12,hz12,h⟩:=Qbs h
      refine Qwl [0, 2, 3, 4, 5, 6, 7, 8, 9, 28, 44, 61, 80, 81, 82, 83] ?_
      refine Wp.drawD mixed (Hp 84 [] [] _ :: Hp 85 [] [] _ :: Hp 86 [] [] _ :: Hp 87 [] [] _ :: Hp 88 (2 :: 3 :: []) [] _ :: Hp 89 (4 :: []) [] _ :: Hp 90 [] [] _ :: ⟨some 91, (6 :: []), (1 :: []), (1 :: []), fun _ => VP.of (y9.1), fun hd _ => ⟨some pp0, .var (y9.2 : T_mcase_Codes)⟩⟩ :: Hp 92 (5 :: 7 :: []) [] _ :: Hp 93 (8 :: []) [] _ :: Hp 94 (0 :: 1 :: []) (0 :: []) _ :: Hp 95 (10 :: []) [] _ :: ⟨none, (9 :: 10 :: 11 :: []), (0 :: []), (0 :: []), fun _ => VP.any, fun hd _ => ⟨g4.1, .row 136 (z12 : List T_api_Table) g4.2⟩⟩ :: []) _ (0 :: 2 :: 3 :: 4 :: 5 :: 6 :: 7 :: 8 :: 9 :: 28 :: 44 :: 61 :: 80 :: 81 :: 82 :: 83 :: []) rfl rfl (by kernel_rfl) ⟨Dm, Dm, Dm, Dm, Dv fun hd E' L' hE hL => r_ias (k := k1) Try.underlying204 ty203 (look_t (hE _ _ rfl)) (look_t (hE _ _ rfl)) (idx_some hk1), D1 (r_loadp ty203), Dm, ?_, Dv fun hd E' L' hE hL => r_ias (k := k2) Try.underlying203 ty9 (look_t (hE _ _ rfl)) (look_t (hE _ _ rfl)) (idx_some hk2), D1 (r_loadp ty9), Dv fun hd E' L' hE hL => r_iaO (i := 0) (k := k3) (xs := (s1.2.1 : List T_api_Table)) Try.underlying28 ty136 (look_t (hE _ _ rfl)) (look_t (hE _ _ rfl)) (hL 0 _ rfl rfl) (idx_some hk3), D1 (r_fa fd136_7), ?_, trivial⟩ fun hd => ?_
      ·intro hd E' L' hE hL
       refine Sq.bring 1 (hL 1 _ rfl rfl) ?_
       refine Sq.callO (Lin := [⟨some pp0, .var (s1.2.2 : T_mcase_Codes)⟩]) (Lr := L'.eraseIdx 1) en49 (C_mcase_Codes_Next hy9) ⟨look_t (hE _ _ rfl), look_int 3, trivial⟩ rfl fun q10 => ?_
       refine Sq.nil ?_
       refine To.back 1 (hL 1 _ rfl rfl) ?_
       exact To.fin (gm []) rfl rfl
      ·intro hd E' L' hE hL
       refine Sq.storeR (i := 0) (k := k3) ((Lens.id T_api_Table).comp le_T_api_Table_Restriction) (v := (lget (lget [z8, z9, z10, z11] k1) k2 : ByteArray)) (r := (z12 : List T_api_Table)) ty9 (look_t (hE _ _ rfl)) (look_t (hE _ _ rfl)) (hL 0 _ rfl rfl) (idx_some hk3).1 rfl (some_in hz12) ?_
       refine Sq.nil ?_
       exact To.fin (gm []) rfl rfl
      refine To.eqL (L2 := [⟨g4.1, .row 136 (z12 : List T_api_Table) g4.2⟩, ⟨some pp0, .var (y9.2 : T_mcase_Codes)⟩, ⟨none, .row 163 (([] : List T_api_Key) : List T_api_Key) 0⟩, ⟨some p4, .var (({ m3.1 with f_Keys := m3.2 } : T_api_Table) : T_api_Table)⟩, ⟨none, .dead⟩, ⟨none, .row 163 (([] : List T_api_Key) : List T_api_Key) 0⟩, ⟨some p3, .var (({ m2.1 with f_Keys := m2.2 } : T_api_Table) : T_api_Table)⟩, ⟨none, .dead⟩, ⟨none, .row 163 (([] : List T_api_Key) : List T_api_Key) 0⟩, ⟨some p2, .var (({ m1.1 with f_Keys := m1.2 } : T_api_Table) : T_api_Table)⟩, ⟨none, .dead⟩, ⟨some p1, .var (z2 : T_api_Table)⟩]) rfl ?_
      refine To.relen (m := z12.length) 7 rfl (lset_len (some_in hz12)) ?_
      refine To.relen (m := z12.length) 84 rfl (lset_len (some_in hz12)) ?_
      refine Qtl [0, 2, 3, 4, 5, 6, 7, 8, 9, 28, 44, 61, 80, 81, 82, 83, 84, 85, 86, 87, 88, 89, 90, 91, 92, 93, 94, 95] ?_
      refine To.bnorm ?_
      refine To.next ?_
      refine Wp.reg ?_
      refine Q2 r_add ?_
      refine Qm ?_
      refine Sq.nil ?_
      obtain rfl:=some_in h
      exact Qrd (g4.1, g4.2) 0
     ·refine Wp.exit ?_
      refine To.exit ?_
      obtain rfl:=some_in h
      exact Qlv (g4.1, g4.2) 0
    ·clear hl
     refine To.bexit ?_
     refine To.next ?_
     refine Qsr ?_
     refine Qm ?_
     refine Qa ?_
     refine Qnx ?_
     refine Wp.ret ?_
     refine To.freezeL (α := T_api_Table) 0 [2, 7, 97] ⟨rfl, rfl, rfl, trivial⟩ rfl ?_
     refine To.bring 1 rfl ?_
     obtain rfl:=some_in h
     exact Qo1 ()
   ·have h := cond_t hc hm3
    refine Wp.reg ?_
    refine Q1 (r_fa fd136_2) ?_
    refine Qv (r_loadH (i := 2) (q := 0) (β := T_api_Table) (γ := T_api_Key) ty134 (look_t rfl) rfl rfl) ?_
    obtain ⟨z13,hz13,h⟩:=Qbs h
    refine Qn hz13 (r_build (b := { f_Name := ByteArray.mk #[103], f_Field := 9, f_Kind := 1 : T_api_Key }) rfl bu163 zr163 (.cons le_T_api_Key_Name rfl (look_str (ByteArray.mk #[103])) rfl (.cons le_T_api_Key_Field rfl (look_int 9) rfl (.cons le_T_api_Key_Kind rfl (look_int 1) rfl (.nil))))) ?_
    obtain ⟨z14,hz14,h⟩:=Qbs h
    refine Qn hz14 (r_build (b := { f_Name := ByteArray.mk #[100], f_Field := 7, f_Kind := 2 : T_api_Key }) rfl bu163 zr163 (.cons le_T_api_Key_Name rfl (look_str (ByteArray.mk #[100])) rfl (.cons le_T_api_Key_Field rfl (look_int 7) rfl (.cons le_T_api_Key_Kind rfl (look_int 2) rfl (.nil))))) ?_
    refine Qbl [z13, z14] Try.underlying134 ty163 zr163 ?_
    obtain ⟨y10,hy10,h⟩:=Qbs h
    refine Qap 3 Try.underlying134 ty163 zr163 hy10 fun key5 cap1 => ?_
    refine Q1 (r_fa fd136_2) ?_
    refine Sq.storeH (i := 2) (γ := T_api_Key) (b' := (({ ({ (default : T_api_Table) with f_ID := 4, f_Name := ByteArray.mk #[115, 112, 97, 110, 115], f_Actions := ([1, 3, 5] : List Int), f_Default := 3, f_DefaultArgs := [({ (default : T_api_Value) with f_Lo := 7#64 } : T_api_Value)], f_Size := w64 (3 + y7.1) } : T_api_Table) with f_Keys := [] } : T_api_Table) : T_api_Table)) (os' := [(2, slv key5 y10.length cap1)]) ((Lens.id T_api_Table).comp le_T_api_Table_Keys) ty134 (look_t rfl) (look_t rfl) slv_one rfl rfl rfl rfl ?_
    refine Sq.nil ?_
    obtain rfl:=some_in h
    exact Qmt 0 (hm (key5, cap1))
   ·have h := cond_f hc hm3
    refine Wp.skip ?_
    obtain rfl:=some_in h
    exact Qmt 0 (hm (key3, 1))
  ·have h := cond_t hc hm2
   refine Wp.reg ?_
   refine Q1 (r_fa fd136_2) ?_
   refine Qv (r_loadH (i := 2) (q := 0) (β := T_api_Table) (γ := T_api_Key) ty134 (look_t rfl) rfl rfl) ?_
   obtain ⟨z15,hz15,h⟩:=Qbs h
   refine Qn hz15 (r_build (b := { f_Name := ByteArray.mk #[98], f_Field := 5, f_Kind := 1 : T_api_Key }) rfl bu163 zr163 (.cons le_T_api_Key_Name rfl (look_str (ByteArray.mk #[98])) rfl (.cons le_T_api_Key_Field rfl (look_int 5) rfl (.cons le_T_api_Key_Kind rfl (look_int 1) rfl (.nil))))) ?_
   refine Qbl [z15] Try.underlying134 ty163 zr163 ?_
   obtain ⟨y11,hy11,h⟩:=Qbs h
   refine Qap 3 Try.underlying134 ty163 zr163 hy11 fun key6 cap2 => ?_
   refine Q1 (r_fa fd136_2) ?_
   refine Sq.storeH (i := 2) (γ := T_api_Key) (b' := (({ ({ (default : T_api_Table) with f_ID := 3, f_Name := ByteArray.mk #[97, 99, 108], f_Actions := ([1, 2, 3, 5, 6] : List Int), f_Default := 1, f_Size := w64 (4 + y5.1) } : T_api_Table) with f_Keys := [] } : T_api_Table) : T_api_Table)) (os' := [(2, slv key6 y11.length cap2)]) ((Lens.id T_api_Table).comp le_T_api_Table_Keys) ty134 (look_t rfl) (look_t rfl) slv_one rfl rfl rfl rfl ?_
   refine Sq.nil ?_
   obtain rfl:=some_in h
   exact Qmt 0 (hm (key6, cap2))
  ·have h := cond_f hc hm2
   refine Wp.skip ?_
   obtain rfl:=some_in h
   exact Qmt 0 (hm (key2, 2))
 ·have h := cond_t hc hm1
  refine Wp.reg ?_
  refine Q1 (r_fa fd136_2) ?_
  refine Qv (r_loadH (i := 2) (q := 0) (β := T_api_Table) (γ := T_api_Key) ty134 (look_t rfl) rfl rfl) ?_
  obtain ⟨z16,hz16,h⟩:=Qbs h
  refine Qn hz16 (r_build (b := { f_Name := ByteArray.mk #[109], f_Field := 3, f_Kind := 1 : T_api_Key }) rfl bu163 zr163 (.cons le_T_api_Key_Name rfl (look_str (ByteArray.mk #[109])) rfl (.cons le_T_api_Key_Field rfl (look_int 3) rfl (.cons le_T_api_Key_Kind rfl (look_int 1) rfl (.nil))))) ?_
  refine Qbl [z16] Try.underlying134 ty163 zr163 ?_
  obtain ⟨y12,hy12,h⟩:=Qbs h
  refine Qap 3 Try.underlying134 ty163 zr163 hy12 fun key7 cap3 => ?_
  refine Q1 (r_fa fd136_2) ?_
  refine Sq.storeH (i := 2) (γ := T_api_Key) (b' := (({ ({ (default : T_api_Table) with f_ID := 2, f_Name := ByteArray.mk #[114, 111, 117, 116, 101, 115], f_Actions := ([1, 2, 3, 4] : List Int), f_Default := 2, f_Size := w64 (3 + y3.1) } : T_api_Table) with f_Keys := [] } : T_api_Table) : T_api_Table)) (os' := [(2, slv key7 y12.length cap3)]) ((Lens.id T_api_Table).comp le_T_api_Table_Keys) ty134 (look_t rfl) (look_t rfl) slv_one rfl rfl rfl rfl ?_
  refine Sq.nil ?_
  obtain rfl:=some_in h
  exact Qmt 0 (hm (key7, cap3))
 ·have h := cond_f hc hm1
  refine Wp.skip ?_
  obtain rfl:=some_in h
  exact Qmt 0 (hm (key1, 1))
end Go.Proofs.Ytodajdohokmjnaa

namespace Go.Proofs.Ytodajdohokmjnaa
open Go Gv
set_option linter.unusedVariables false
set_option linter.unusedSimpArgs false
set_option maxRecDepth 100000
set_option maxHeartbeats 2000000
theorem C_mcase_Codes_roles {x0 : T_mcase_Codes} {x1 : List T_api_Table} {pp0 : Nat} {r : (List T_api_Role) × T_mcase_Codes} (h : L_mcase_Codes_roles x0 x1 = some r) : MeetsO Try.prog 53 [VP.eq (.pointer (some ⟨pp0, 0, none⟩)), VP.of (x1)] [⟨some pp0, .var (x0 : T_mcase_Codes)⟩] (δ := Unit) (fun d => VP.of (r.1)) (fun d => [⟨some pp0, .var (r.2 : T_mcase_Codes)⟩]) := by
 unfold L_mcase_Codes_roles at h
 refine MeetsO.of Try.func53 rfl Try.ntmps53 rfl fun W A => ?_
 refine Qsr ?_
 refine Qv (r_asg (look_nil (α := T_api_Role))) ?_
 refine Qnr ?_
 refine Qbl ([1, 2, 3, 4, 5, 6] : List Int) Try.underlying64 ty3 zr3 ?_
 refine Qv (r_buildX (b := ({ (default : T_api_Role) with f_ID := 1, f_Name := ByteArray.mk #[97, 108, 108], f_Actions := ([1, 2, 3, 4, 5, 6] : List Int), f_Quota := 40, f_Audit := true } : T_api_Role)) [2] zh207_2 rfl bu207 zr207 (.cons le_T_api_Role_ID rfl (look_int 1) rfl (by rfl) (.cons le_T_api_Role_Name rfl (look_str (ByteArray.mk #[97, 108, 108])) rfl (by rfl) (.cons le_T_api_Role_Actions rfl (look_t rfl) rfl (by rfl) (.cons le_T_api_Role_Quota rfl (look_int 40) rfl (by rfl) (.cons le_T_api_Role_Audit rfl (look_bool true) rfl (by rfl) (.nil))))))) ?_
 refine Sq.own (α := T_api_Grant) 209 ?_
 refine Sq.allocX (z := (default : T_api_Role)) [2] zh207_2 zr207 rfl fun p1 => ?_
 refine Sq.own (α := T_api_Grant) 209 ?_
 refine Sq.storeW (i := 1) ty207 (look_t rfl) (look_t rfl) rfl ?_
 refine Qnr ?_
 refine Qm ?_
 refine Sq.bring 3 rfl ?_
 obtain ⟨y1,hy1,h⟩:=Qbs h
 refine QcO 1 en49 (C_mcase_Codes_Next hy1) fun q1 => ?_
 refine Q2 r_add ?_
 refine Qbl ([1, 2, w64 (3 + y1.1)] : List Int) Try.underlying64 ty3 zr3 ?_
 refine Qm ?_
 refine Sq.bring 0 rfl ?_
 obtain ⟨y2,hy2,h⟩:=Qbs h
 refine QcO 1 en49 (C_mcase_Codes_Next hy2) fun q2 => ?_
 refine Q2 r_add ?_
 refine Qv (r_buildX (b := ({ (default : T_api_Role) with f_ID := 2, f_Name := ByteArray.mk #[115, 111, 109, 101], f_Actions := ([1, 2, w64 (3 + y1.1)] : List Int), f_Quota := w64 (1 + y2.1) } : T_api_Role)) [2] zh207_2 rfl bu207 zr207 (.cons le_T_api_Role_ID rfl (look_int 2) rfl (by rfl) (.cons le_T_api_Role_Name rfl (look_str (ByteArray.mk #[115, 111, 109, 101])) rfl (by rfl) (.cons le_T_api_Role_Actions rfl (look_t rfl) rfl (by rfl) (.cons le_T_api_Role_Quota rfl (look_t rfl) rfl (by rfl) (.nil)))))) ?_
 refine Sq.own (α := T_api_Grant) 209 ?_
 refine Sq.allocX (z := (default : T_api_Role)) [2] zh207_2 zr207 rfl fun p2 => ?_
 refine Sq.own (α := T_api_Grant) 209 ?_
 refine Sq.storeW (i := 1) ty207 (look_t rfl) (look_t rfl) rfl ?_
 refine Qnr ?_
 refine Qm ?_
 refine Sq.bring 3 rfl ?_
 obtain ⟨y3,hy3,h⟩:=Qbs h
 refine QcO 1 en49 (C_mcase_Codes_Next hy3) fun q3 => ?_
 refine Q2 r_add ?_
 refine Qbl [w64 (1 + y3.1)] Try.underlying64 ty3 zr3 ?_
 refine Qm ?_
 refine Sq.bring 0 rfl ?_
 obtain ⟨y4,hy4,h⟩:=Qbs h
 refine QcO 1 en49 (C_mcase_Codes_Next hy4) fun q4 => ?_
 refine Qv (r_buildX (b := ({ (default : T_api_Role) with f_ID := 7, f_Name := ByteArray.mk #[102, 101, 119], f_Actions := [w64 (1 + y3.1)], f_Quota := y4.1 } : T_api_Role)) [2] zh207_2 rfl bu207 zr207 (.cons le_T_api_Role_ID rfl (look_int 7) rfl (by rfl) (.cons le_T_api_Role_Name rfl (look_str (ByteArray.mk #[102, 101, 119])) rfl (by rfl) (.cons le_T_api_Role_Actions rfl (look_t rfl) rfl (by rfl) (.cons le_T_api_Role_Quota rfl (look_t rfl) rfl (by rfl) (.nil)))))) ?_
 refine Sq.own (α := T_api_Grant) 209 ?_
 refine Sq.allocX (z := (default : T_api_Role)) [2] zh207_2 zr207 rfl fun p3 => ?_
 refine Sq.own (α := T_api_Grant) 209 ?_
 refine Sq.storeW (i := 1) ty207 (look_t rfl) (look_t rfl) rfl ?_
 refine Qns ?_
 refine Qsr ?_
 refine Qm ?_
 refine Q1 (r_len Try.underlying28) ?_
 refine Qm ?_
 refine Qnx ?_
 refine Wp.block ?_
 obtain ⟨e1,hl,h⟩:=Qbs h
 refine Qlp (γ:=(Option Nat × Nat) × (Option Nat × Nat) × (Option Nat × Nat)) (δ:=(Option Nat × Nat) × (Option Nat × Nat) × (Option Nat × Nat)) hl [0, 1, 4, 5, 6, 7, 30, 31] (fun s1 g1 => [(32, VP.of (s1.1))]) (fun s1 g1 => [(1, ⟨some p3, .varX (s1.2.1 : T_api_Role) [(2, slv g1.1.1 s1.2.2.1.length g1.1.2)]⟩), (2, ⟨g1.1.1, .row 209 (s1.2.2.1 : List T_api_Grant) g1.1.2⟩), (3, ⟨some pp0, .var (s1.2.2.2.1 : T_mcase_Codes)⟩), (5, ⟨some p2, .varX (s1.2.2.2.2.1 : T_api_Role) [(2, slv g1.2.1.1 s1.2.2.2.2.2.1.length g1.2.1.2)]⟩), (6, ⟨g1.2.1.1, .row 209 (s1.2.2.2.2.2.1 : List T_api_Grant) g1.2.1.2⟩), (8, ⟨some p1, .varX (s1.2.2.2.2.2.2.1 : T_api_Role) [(2, slv g1.2.2.1 s1.2.2.2.2.2.2.2.length g1.2.2.2)]⟩), (9, ⟨g1.2.2.1, .row 209 (s1.2.2.2.2.2.2.2 : List T_api_Grant) g1.2.2.2⟩)]) (fun q5 => Exit.exit 0) (fun q5 g1 => [(32, VP.of (q5.1)), (33, VP.of (q5.2.1))]) (fun q5 g1 => [(1, ⟨some p3, .varX (q5.2.2.1 : T_api_Role) [(2, slv g1.1.1 q5.2.2.2.1.length g1.1.2)]⟩), (2, ⟨g1.1.1, .row 209 (q5.2.2.2.1 : List T_api_Grant) g1.1.2⟩), (3, ⟨some pp0, .var (q5.2.2.2.2.1 : T_mcase_Codes)⟩), (5, ⟨some p2, .varX (q5.2.2.2.2.2.1 : T_api_Role) [(2, slv g1.2.1.1 q5.2.2.2.2.2.2.1.length g1.2.1.2)]⟩), (6, ⟨g1.2.1.1, .row 209 (q5.2.2.2.2.2.2.1 : List T_api_Grant) g1.2.1.2⟩), (8, ⟨some p1, .varX (q5.2.2.2.2.2.2.2.1 : T_api_Role) [(2, slv g1.2.2.1 q5.2.2.2.2.2.2.2.2.length g1.2.2.2)]⟩), (9, ⟨g1.2.2.1, .row 209 (q5.2.2.2.2.2.2.2.2 : List T_api_Grant) g1.2.2.2⟩)]) ((none, 0), (none, 0), (none, 0)) (fun s1 r h g1 => ?_) fun g1 => ?_
 ·clear hl
  refine Qsr ?_
  refine Q2 r_lss ?_
  refine Qns ?_
  refine Qcd h (fun h=>?_) fun h=>?_
  ·refine Qkn ?_
   refine Wp.seq ?_
   refine Wp.block ?_
   refine Qsr ?_
   obtain ⟨k1,hk1,h⟩:=Qbs h
   refine Qix hk1 Try.underlying28 ty136 ?_
   refine Q1 (r_loadp ty136) ?_
   refine Qal zr136 fun p4 => ?_
   refine Qs0 0 ty136 ?_
   refine Qnr ?_
   refine Q1 (r_fa fd136_2) ?_
   refine Qld 0 le_T_api_Table_Keys ty134 ?_
   refine Q1 (r_len Try.underlying134) ?_
   obtain ⟨y5,hy5,h⟩:=Qbs h
   refine Sq.mks Try.underlying96 ty4 zr4 rfl (by kernel_rfl) (look_t rfl) (look_t rfl) hy5 rfl fun key1 => ?_
   refine Qa ?_
   refine Qnr ?_
   refine Q1 (r_fa fd136_2) ?_
   refine Qld 1 le_T_api_Table_Keys ty134 ?_
   refine Q1 (r_len Try.underlying134) ?_
   obtain ⟨y6,hy6,h⟩:=Qbs h
   refine Sq.mks Try.underlying96 ty4 zr4 rfl (by kernel_rfl) (look_t rfl) (look_t rfl) hy6 rfl fun key2 => ?_
   refine Qa ?_
   refine Qns ?_
   refine Qsr ?_
   refine Qm ?_
   refine Qv (r_lenO (i := 1) Try.underlying96 (look_t rfl) rfl rfl) ?_
   refine Qm ?_
   refine Qnx ?_
   refine Wp.block ?_
   obtain ⟨e2,hl,h⟩:=Qbs h
   refine Qlp (γ:=(Option Nat × Nat) × (Option Nat × Nat)) (δ:=(Option Nat × Nat) × (Option Nat × Nat)) hl [0, 1, 4, 5, 6, 7, 9, 30, 31, 32, 33, 45] (fun s2 g2 => [(10, VP.eq (slv g2.2.1 s2.2.2.1.length g2.2.2)), (11, VP.eq (slv g2.1.1 s2.2.1.length g2.1.2)), (46, VP.of (s2.1))]) (fun s2 g2 => [(0, ⟨g2.1.1, .row 4 (s2.2.1 : List Bool) g2.1.2⟩), (1, ⟨g2.2.1, .row 4 (s2.2.2.1 : List Bool) g2.2.2⟩), (6, ⟨some pp0, .var (s2.2.2.2 : T_mcase_Codes)⟩)]) (fun q6 => Exit.exit 2) (fun q6 g2 => [(10, VP.eq (slv g2.2.1 q6.2.2.2.1.length g2.2.2)), (11, VP.eq (slv g2.1.1 q6.2.2.1.length g2.1.2)), (46, VP.of (q6.1)), (47, VP.of (q6.2.1))]) (fun q6 g2 => [(0, ⟨g2.1.1, .row 4 (q6.2.2.1 : List Bool) g2.1.2⟩), (1, ⟨g2.2.1, .row 4 (q6.2.2.2.1 : List Bool) g2.2.2⟩), (6, ⟨some pp0, .var (q6.2.2.2.2 : T_mcase_Codes)⟩)]) ((key2, y6.length), (key1, y5.length)) (fun s2 r h g2 => ?_) fun g2 => ?_
   ·clear hl
    refine Qsr ?_
    refine Q2 r_lss ?_
    refine Qns ?_
    refine Qcd h (fun h=>?_) fun h=>?_
    ·refine Qkn ?_
     refine Wp.seq ?_
     refine Wp.block ?_
     refine Qsr ?_
     refine Qm ?_
     refine Qa ?_
     refine Qnx ?_
     refine Wp.reg ?_
     refine Qm ?_
     refine Qm ?_
     refine Qm ?_
     refine Qm ?_
     refine Qm ?_
     refine Sq.bring 6 rfl ?_
     obtain ⟨y7,hy7,h⟩:=Qbs h
     refine QcO 1 en49 (C_mcase_Codes_Next hy7) fun q7 => ?_
     refine Q2 r_gtr ?_
     obtain ⟨k2,hk2,h⟩:=Qbs h
     refine Qv (r_iaO (i := 2) (k := k2) (xs := (s2.2.2.1 : List Bool)) Try.underlying96 ty4 (look_t rfl) (look_t rfl) rfl (idx_some hk2)) ?_
     refine Sq.storeR (i := 2) (k := k2) (Lens.id Bool) (v := (true : Bool)) (r := (lset s2.2.2.1 k2 true : List Bool)) ty4 (look_t rfl) (look_bool true) rfl (idx_some hk2).1 rfl rfl ?_
     refine Sq.relen (m := (lset s2.2.2.1 k2 true).length) 10 rfl (lset_len rfl) ?_
     refine Sq.relen (m := (lset s2.2.2.1 k2 true).length) 49 rfl (lset_len rfl) ?_
     obtain ⟨k3,hk3,h⟩:=Qbs h
     refine Qv (r_iaO (i := 1) (k := k3) (xs := (s2.2.1 : List Bool)) Try.underlying96 ty4 (look_t rfl) (look_t rfl) rfl (idx_some hk3)) ?_
     refine Sq.storeR (i := 1) (k := k3) (Lens.id Bool) (v := (decide (y7.1 > 0) : Bool)) (r := (lset s2.2.1 k3 (decide (y7.1 > 0)) : List Bool)) ty4 (look_t rfl) (look_t rfl) rfl (idx_some hk3).1 rfl rfl ?_
     refine Sq.relen (m := (lset s2.2.1 k3 (decide (y7.1 > 0))).length) 11 rfl (lset_len rfl) ?_
     refine Sq.relen (m := (lset s2.2.1 k3 (decide (y7.1 > 0))).length) 51 rfl (lset_len rfl) ?_
     refine Sq.nil ?_
     refine To.bnorm ?_
     refine To.next ?_
     refine Wp.reg ?_
     refine Q2 r_add ?_
     refine Qm ?_
     refine Sq.nil ?_
     refine To.bring 6 rfl ?_
     refine To.bring 6 rfl ?_
     refine To.bring 6 rfl ?_
     refine To.bring 6 rfl ?_
     refine To.bring 6 rfl ?_
     refine To.bring 6 rfl ?_
     obtain rfl:=some_in h
     exact Qrd ((g2.1.1, g2.1.2), (g2.2.1, g2.2.2)) 0
    ·refine Wp.exit ?_
     refine To.exit ?_
     obtain rfl:=some_in h
     exact Qlv ((g2.1.1, g2.1.2), (g2.2.1, g2.2.2)) 0
   ·clear hl
    refine To.bexit ?_
    refine To.next ?_
    refine Qsr ?_
    refine Q1 (r_fa fd207_2) ?_
    refine Qv (r_loadH (i := 11) (q := 0) (β := T_api_Role) (γ := T_api_Grant) ty205 (look_t rfl) rfl rfl) ?_
    refine Q1 (r_fa fd136_0) ?_
    refine Qld 2 le_T_api_Table_ID ty3 ?_
    refine Qm ?_
    refine Sq.freezeL (α := Bool) 1 [63, 10] ⟨rfl, rfl, trivial⟩ rfl ?_
    obtain ⟨z1,hz1,h⟩:=Qbs h
    refine Qn hz1 (r_build (b := { f_Table := (lget x1 k1).f_ID, f_Read := true, f_Write := true, f_Keys := e2.2.2.2.1 : T_api_Grant }) rfl bu209 zr209 (.cons le_T_api_Grant_Table rfl (look_t rfl) rfl (.cons le_T_api_Grant_Read rfl (look_bool true) rfl (.cons le_T_api_Grant_Write rfl (look_bool true) rfl (.cons le_T_api_Grant_Keys rfl (look_t rfl) rfl (.nil)))))) ?_
    refine Qbl [z1] Try.underlying205 ty209 zr209 ?_
    obtain ⟨y8,hy8,h⟩:=Qbs h
    refine Qap 12 Try.underlying205 ty209 zr209 hy8 fun key3 cap1 => ?_
    refine Q1 (r_fa fd207_2) ?_
    refine Sq.storeH (i := 11) (γ := T_api_Grant) (b' := (({ s1.2.2.2.2.2.2.1 with f_Grants := [] } : T_api_Role) : T_api_Role)) (os' := [(2, slv key3 y8.length cap1)]) ((Lens.id T_api_Role).comp le_T_api_Role_Grants) ty205 (look_t rfl) (look_t rfl) slv_one rfl rfl rfl rfl ?_
    refine Qns ?_
    refine Qsr ?_
    refine Qm ?_
    refine Sq.bring 6 rfl ?_
    obtain ⟨y9,hy9,h⟩:=Qbs h
    refine QcO 1 en49 (C_mcase_Codes_Next hy9) fun q8 => ?_
    refine Q2 r_gtr ?_
    refine Qnx ?_
    refine Wp.freeze (α := Bool) 1 11 rfl rfl ?_
    obtain ⟨m1,hm1,h⟩:=Qbs h
    refine Qcm (γ:=(Option Nat × Nat)) [0, 1, 4, 5, 6, 7, 9, 10, 11, 30, 31, 32, 33, 45, 46, 47, 70] (fun g3 => []) (fun g3 => [(0, ⟨some pp0, .var (m1.1 : T_mcase_Codes)⟩), (8, ⟨some p2, .varX (m1.2.1 : T_api_Role) [(2, slv g3.1 m1.2.2.length g3.2)]⟩), (9, ⟨g3.1, .row 209 (m1.2.2 : List T_api_Grant) g3.2⟩)]) (fun g3 => ?_) (fun hm hc => ?_) fun hm hc => ?_
    ·clear hm1
     refine To.next ?_
     refine Qsr ?_
     refine Qm ?_
     refine Sq.bring 0 rfl ?_
     obtain ⟨y10,hy10,h⟩:=Qbs h
     refine QcO 1 en54 (C_mcase_Codes_Bool hy10) fun q9 => ?_
     refine Qnx ?_
     obtain ⟨m2,hm2,h⟩:=Qbs h
     refine Qcm (γ:=(Option Nat × Nat)) [0, 1, 4, 5, 6, 7, 9, 10, 11, 30, 31, 32, 33, 45, 46, 47, 70, 86] (fun g4 => []) (fun g4 => [(0, ⟨some pp0, .var (m2.1 : T_mcase_Codes)⟩), (5, ⟨some p3, .varX (m2.2.1 : T_api_Role) [(2, slv g4.1 m2.2.2.length g4.2)]⟩), (6, ⟨g4.1, .row 209 (m2.2.2 : List T_api_Grant) g4.2⟩)]) (fun g4 => ?_) (fun hm hc => ?_) fun hm hc => ?_
     ·clear hm2
      refine To.bnorm ?_
      refine To.next ?_
      refine Wp.reg ?_
      refine Q2 r_add ?_
      refine Qm ?_
      refine Sq.nil ?_
      refine To.bring 6 rfl ?_
      refine To.bring 6 rfl ?_
      refine To.bring 6 rfl ?_
      refine To.bring 6 rfl ?_
      refine To.bring 6 rfl ?_
      refine To.bring 6 rfl ?_
      obtain rfl:=some_in h
      exact Qrd ((g4.1, g4.2), (g3.1, g3.2), (key3, cap1)) 3
     ·have h := cond_t hc hm2
      obtain ⟨y11,hy11,h⟩:=Qbs h
      obtain ⟨y12,hy12,h⟩:=Qbs h
      obtain ⟨z2,hz2,h⟩:=Qbs h
      obtain ⟨y13,hy13,h⟩:=Qbs h
      refine Qwl [0, 1, 4, 5, 6, 7, 9, 10, 11, 30, 31, 32, 33, 45, 46, 47, 70, 85, 86] ?_
      refine Wp.drawD mixed (Hp 87 [] [] _ :: Hp 88 (0 :: []) (5 :: []) _ :: Hp 89 [] [] _ :: Hp 90 (2 :: []) (3 :: []) _ :: Hp 91 [] [] _ :: ⟨some 92, (4 :: []), (0 :: []), (0 :: []), fun _ => VP.of (y11.1), fun hd _ => ⟨some pp0, .var (y11.2 : T_mcase_Codes)⟩⟩ :: Hp 93 [] [] _ :: ⟨some 94, (5 :: 6 :: []), (0 :: []), (0 :: []), fun _ => VP.of (y12.1), fun hd _ => ⟨some pp0, .var (y12.2 : T_mcase_Codes)⟩⟩ :: Hp 95 [] [] _ :: Hp 96 (3 :: 5 :: 7 :: 8 :: []) [] _ :: Hp 97 (9 :: []) [] _ :: ⟨some 98, (1 :: 10 :: []), (6 :: []), (6 :: []), fun hd => VP.eq (slv (hd 11 0) y13.length ((hd 11 1).getD 0)), fun hd _ => ⟨(hd 11 0), .row 209 (y13 : List T_api_Grant) ((hd 11 1).getD 0)⟩⟩ :: Hp 99 [] [] _ :: ⟨none, (1 :: 11 :: 12 :: []), (5 :: []), (5 :: []), fun _ => VP.any, fun hd _ => ⟨some p3, .varX (({ s1.2.1 with f_Grants := [] } : T_api_Role) : T_api_Role) [(2, slv (hd 11 0) y13.length ((hd 11 1).getD 0))]⟩⟩ :: []) _ (0 :: 1 :: 4 :: 5 :: 6 :: 7 :: 9 :: 10 :: 11 :: 30 :: 31 :: 32 :: 33 :: 45 :: 46 :: 47 :: 70 :: 85 :: 86 :: []) rfl rfl (by kernel_rfl) ⟨D1 (r_fa fd207_2), Dv fun hd E' L' hE hL => r_loadH (i := 5) (q := 0) (β := T_api_Role) (γ := T_api_Grant) ty205 (look_t (hE _ _ rfl)) (hL 5 _ rfl rfl) rfl, D1 (r_fa fd136_0), Dld 3 le_T_api_Table_ID ty3, Dm, ?_, Dm, ?_, Dm, Dv fun hd E' L' hE hL => (r_build (b := { f_Table := (lget x1 k1).f_ID, f_Read := y11.1, f_Write := y12.1, f_Keys := e2.2.2.2.1 : T_api_Grant }) rfl bu209 zr209 (.cons le_T_api_Grant_Table rfl (look_t (hE _ _ rfl)) rfl (.cons le_T_api_Grant_Read rfl (look_t (hE _ _ rfl)) rfl (.cons le_T_api_Grant_Write rfl (look_t (hE _ _ rfl)) rfl (.cons le_T_api_Grant_Keys rfl (look_t (hE _ _ rfl)) rfl (.nil)))))).as (some_in hz2), Dv fun hd E' L' hE hL => r_bsl (r := [z2]) Try.underlying205 ty209 zr209 rfl rfl (.cons (by simp) (look_t (hE _ _ rfl)) (.nil)), ?_, D1 (r_fa fd207_2), ?_, trivial⟩ fun hd => ?_
      ·intro hd E' L' hE hL
       refine Sq.bring 0 (hL 0 _ rfl rfl) ?_
       refine Sq.callO (Lin := [⟨some pp0, .var (y10.2 : T_mcase_Codes)⟩]) (Lr := L'.eraseIdx 0) en54 (C_mcase_Codes_Bool hy11) ⟨look_t (hE _ _ rfl), trivial⟩ rfl fun q10 => ?_
       refine Sq.nil ?_
       refine To.back 0 (hL 0 _ rfl rfl) ?_
       exact To.fin (gm []) rfl rfl
      ·intro hd E' L' hE hL
       refine Sq.bring 0 (hL 0 _ rfl rfl) ?_
       refine Sq.callO (Lin := [⟨some pp0, .var (y11.2 : T_mcase_Codes)⟩]) (Lr := L'.eraseIdx 0) en54 (C_mcase_Codes_Bool hy12) ⟨look_t (hE _ _ rfl), trivial⟩ rfl fun q11 => ?_
       refine Sq.nil ?_
       refine To.back 0 (hL 0 _ rfl rfl) ?_
       exact To.fin (gm []) rfl rfl
      ·intro hd E' L' hE hL
       refine Sq.app (i := 6) Try.underlying205 ty209 zr209 (bytes := 40) (by kernel_rfl) (look_t (hE _ _ rfl)) (hL 6 _ rfl rfl) (look_t (hE _ _ rfl)) hy13 rfl fun key4 cap2 => ?_
       refine Sq.nil ?_
       exact To.fin (gm [key4, some cap2]) rfl rfl
      ·intro hd E' L' hE hL
       refine Sq.storeH (i := 5) (γ := T_api_Grant) (b' := (({ s1.2.1 with f_Grants := [] } : T_api_Role) : T_api_Role)) (os' := [(2, slv (hd 11 0) y13.length ((hd 11 1).getD 0))]) ((Lens.id T_api_Role).comp le_T_api_Role_Grants) ty205 (look_t (hE _ _ rfl)) (look_t (hE _ _ rfl)) slv_one (hL 5 _ rfl rfl) rfl rfl rfl ?_
       refine Sq.nil ?_
       exact To.fin (gm []) rfl rfl
      refine To.eqL (L2 := [⟨some pp0, .var (y12.2 : T_mcase_Codes)⟩, ⟨none, .dead⟩, ⟨none, .dead⟩, ⟨some p4, .var (lget x1 k1 : T_api_Table)⟩, ⟨none, .row 209 (([] : List T_api_Grant) : List T_api_Grant) 0⟩, ⟨some p3, .varX (({ s1.2.1 with f_Grants := [] } : T_api_Role) : T_api_Role) [(2, slv (hd 11 0) y13.length ((hd 11 1).getD 0))]⟩, ⟨(hd 11 0), .row 209 (y13 : List T_api_Grant) ((hd 11 1).getD 0)⟩, ⟨none, .row 209 (([] : List T_api_Grant) : List T_api_Grant) 0⟩, ⟨some p2, .varX (m1.2.1 : T_api_Role) [(2, slv g3.1 m1.2.2.length g3.2)]⟩, ⟨g3.1, .row 209 (m1.2.2 : List T_api_Grant) g3.2⟩, ⟨none, .row 209 (([] : List T_api_Grant) : List T_api_Grant) 0⟩, ⟨some p1, .varX (({ s1.2.2.2.2.2.2.1 with f_Grants := [] } : T_api_Role) : T_api_Role) [(2, slv key3 y8.length cap1)]⟩, ⟨key3, .row 209 (y8 : List T_api_Grant) cap1⟩]) rfl ?_
      refine Qtl [0, 1, 4, 5, 6, 7, 9, 10, 11, 30, 31, 32, 33, 45, 46, 47, 70, 85, 86, 87, 89, 90, 91, 92, 93, 94, 95, 96, 97, 98, 99] ?_
      obtain rfl:=some_in h
      exact Qmt 0 (hm ((hd 11 0), ((hd 11 1).getD 0)))
     ·have h := cond_f hc hm2
      refine Wp.skip ?_
      obtain rfl:=some_in h
      exact Qmt 0 (hm (g1.1.1, g1.1.2))
    ·have h := cond_t hc hm1
     obtain ⟨y14,hy14,h⟩:=Qbs h
     obtain ⟨y15,hy15,h⟩:=Qbs h
     obtain ⟨z3,hz3,h⟩:=Qbs h
     obtain ⟨y16,hy16,h⟩:=Qbs h
     refine Qwl [0, 1, 4, 5, 6, 7, 9, 10, 11, 30, 31, 32, 33, 45, 46, 47, 59, 61, 62, 63, 64, 65, 66, 67, 68, 69, 70] ?_
     refine Wp.drawD mixed (Hp 71 [] [] _ :: Hp 72 (0 :: []) (8 :: []) _ :: Hp 73 [] [] _ :: Hp 74 (2 :: []) (3 :: []) _ :: Hp 75 [] [] _ :: ⟨some 76, (4 :: []), (0 :: []), (0 :: []), fun _ => VP.of (y14.1), fun hd _ => ⟨some pp0, .var (y14.2 : T_mcase_Codes)⟩⟩ :: Hp 77 (5 :: []) [] _ :: Hp 78 [] [] _ :: ⟨some 79, (5 :: 7 :: []), (0 :: []), (0 :: []), fun _ => VP.of (y15.1), fun hd _ => ⟨some pp0, .var (y15.2 : T_mcase_Codes)⟩⟩ :: Hp 80 [] [] _ :: Hp 81 (3 :: 6 :: 8 :: 9 :: []) [] _ :: Hp 82 (10 :: []) [] _ :: ⟨some 83, (1 :: 11 :: []), (9 :: []), (9 :: []), fun hd => VP.eq (slv (hd 12 0) y16.length ((hd 12 1).getD 0)), fun hd _ => ⟨(hd 12 0), .row 209 (y16 : List T_api_Grant) ((hd 12 1).getD 0)⟩⟩ :: Hp 84 [] [] _ :: ⟨none, (1 :: 12 :: 13 :: []), (8 :: []), (8 :: []), fun _ => VP.any, fun hd _ => ⟨some p2, .varX (({ s1.2.2.2.2.1 with f_Grants := [] } : T_api_Role) : T_api_Role) [(2, slv (hd 12 0) y16.length ((hd 12 1).getD 0))]⟩⟩ :: []) _ (0 :: 1 :: 4 :: 5 :: 6 :: 7 :: 9 :: 10 :: 11 :: 30 :: 31 :: 32 :: 33 :: 45 :: 46 :: 47 :: 59 :: 61 :: 62 :: 63 :: 64 :: 65 :: 66 :: 67 :: 68 :: 69 :: 70 :: []) rfl rfl (by kernel_rfl) ⟨D1 (r_fa fd207_2), Dv fun hd E' L' hE hL => r_loadH (i := 8) (q := 0) (β := T_api_Role) (γ := T_api_Grant) ty205 (look_t (hE _ _ rfl)) (hL 8 _ rfl rfl) rfl, D1 (r_fa fd136_0), Dld 3 le_T_api_Table_ID ty3, Dm, ?_, D2 r_gtr, Dm, ?_, Dm, Dv fun hd E' L' hE hL => (r_build (b := { f_Table := (lget x1 k1).f_ID, f_Read := decide (y14.1 > 0), f_Write := y15.1, f_Keys := e2.2.2.1 : T_api_Grant }) rfl bu209 zr209 (.cons le_T_api_Grant_Table rfl (look_t (hE _ _ rfl)) rfl (.cons le_T_api_Grant_Read rfl (look_t (hE _ _ rfl)) rfl (.cons le_T_api_Grant_Write rfl (look_t (hE _ _ rfl)) rfl (.cons le_T_api_Grant_Keys rfl (look_t (hE _ _ rfl)) rfl (.nil)))))).as (some_in hz3), Dv fun hd E' L' hE hL => r_bsl (r := [z3]) Try.underlying205 ty209 zr209 rfl rfl (.cons (by simp) (look_t (hE _ _ rfl)) (.nil)), ?_, D1 (r_fa fd207_2), ?_, trivial⟩ fun hd => ?_
     ·intro hd E' L' hE hL
      refine Sq.bring 0 (hL 0 _ rfl rfl) ?_
      refine Sq.callO (Lin := [⟨some pp0, .var (y9.2 : T_mcase_Codes)⟩]) (Lr := L'.eraseIdx 0) en49 (C_mcase_Codes_Next hy14) ⟨look_t (hE _ _ rfl), look_int 4, trivial⟩ rfl fun q12 => ?_
      refine Sq.nil ?_
      refine To.back 0 (hL 0 _ rfl rfl) ?_
      exact To.fin (gm []) rfl rfl
     ·intro hd E' L' hE hL
      refine Sq.bring 0 (hL 0 _ rfl rfl) ?_
      refine Sq.callO (Lin := [⟨some pp0, .var (y14.2 : T_mcase_Codes)⟩]) (Lr := L'.eraseIdx 0) en54 (C_mcase_Codes_Bool hy15) ⟨look_t (hE _ _ rfl), trivial⟩ rfl fun q13 => ?_
      refine Sq.nil ?_
      refine To.back 0 (hL 0 _ rfl rfl) ?_
      exact To.fin (gm []) rfl rfl
     ·intro hd E' L' hE hL
      refine Sq.app (i := 9) Try.underlying205 ty209 zr209 (bytes := 40) (by kernel_rfl) (look_t (hE _ _ rfl)) (hL 9 _ rfl rfl) (look_t (hE _ _ rfl)) hy16 rfl fun key5 cap3 => ?_
      refine Sq.nil ?_
      exact To.fin (gm [key5, some cap3]) rfl rfl
     ·intro hd E' L' hE hL
      refine Sq.storeH (i := 8) (γ := T_api_Grant) (b' := (({ s1.2.2.2.2.1 with f_Grants := [] } : T_api_Role) : T_api_Role)) (os' := [(2, slv (hd 12 0) y16.length ((hd 12 1).getD 0))]) ((Lens.id T_api_Role).comp le_T_api_Role_Grants) ty205 (look_t (hE _ _ rfl)) (look_t (hE _ _ rfl)) slv_one (hL 8 _ rfl rfl) rfl rfl rfl ?_
      refine Sq.nil ?_
      exact To.fin (gm []) rfl rfl
     refine To.eqL (L2 := [⟨some pp0, .var (y15.2 : T_mcase_Codes)⟩, ⟨none, .dead⟩, ⟨none, .dead⟩, ⟨some p4, .var (lget x1 k1 : T_api_Table)⟩, ⟨none, .row 209 (([] : List T_api_Grant) : List T_api_Grant) 0⟩, ⟨some p3, .varX (s1.2.1 : T_api_Role) [(2, slv g1.1.1 s1.2.2.1.length g1.1.2)]⟩, ⟨g1.1.1, .row 209 (s1.2.2.1 : List T_api_Grant) g1.1.2⟩, ⟨none, .row 209 (([] : List T_api_Grant) : List T_api_Grant) 0⟩, ⟨some p2, .varX (({ s1.2.2.2.2.1 with f_Grants := [] } : T_api_Role) : T_api_Role) [(2, slv (hd 12 0) y16.length ((hd 12 1).getD 0))]⟩, ⟨(hd 12 0), .row 209 (y16 : List T_api_Grant) ((hd 12 1).getD 0)⟩, ⟨none, .row 209 (([] : List T_api_Grant) : List T_api_Grant) 0⟩, ⟨some p1, .varX (({ s1.2.2.2.2.2.2.1 with f_Grants := [] } : T_api_Role) : T_api_Role) [(2, slv key3 y8.length cap1)]⟩, ⟨key3, .row 209 (y8 : List T_api_Grant) cap1⟩]) rfl ?_
     refine Qtl [0, 1, 4, 5, 6, 7, 9, 10, 11, 30, 31, 32, 33, 45, 46, 47, 59, 61, 62, 63, 64, 65, 66, 67, 68, 69, 70, 71, 73, 74, 75, 76, 77, 78, 79, 80, 81, 82, 83, 84] ?_
     obtain rfl:=some_in h
     exact Qmt 0 (hm ((hd 12 0), ((hd 12 1).getD 0)))
    ·have h := cond_f hc hm1
     refine Wp.skip ?_
     obtain rfl:=some_in h
     exact Qmt 0 (hm (g1.2.1.1, g1.2.1.2))
  ·refine Wp.exit ?_
   refine To.exit ?_
   obtain rfl:=some_in h
   exact Qlv ((g1.1.1, g1.1.2), (g1.2.1.1, g1.2.1.2), (g1.2.2.1, g1.2.2.2)) 0
 ·clear hl
  refine To.bexit ?_
  refine To.next ?_
  refine Qsr ?_
  refine Sq.thaw (β := T_api_Role) (γ := T_api_Grant) (b' := (({ e1.2.2.2.2.2.2.2.1 with f_Grants := e1.2.2.2.2.2.2.2.2 } : T_api_Role) : T_api_Role)) ((Lens.id T_api_Role).comp le_T_api_Role_Grants) 8 9 0 rfl rfl rfl rfl rfl rfl ?_
  refine Sq.fromX 8 rfl ?_
  obtain ⟨z4,hz4,h⟩:=Qbs h
  refine Qn hz4 (r_load (i := 8) (Lens.id T_api_Role) (r := ({ e1.2.2.2.2.2.2.2.1 with f_Grants := e1.2.2.2.2.2.2.2.2 } : T_api_Role)) ty207 (look_t rfl) rfl rfl rfl) ?_
  refine Sq.thaw (β := T_api_Role) (γ := T_api_Grant) (b' := (({ e1.2.2.2.2.2.1 with f_Grants := e1.2.2.2.2.2.2.1 } : T_api_Role) : T_api_Role)) ((Lens.id T_api_Role).comp le_T_api_Role_Grants) 5 6 0 rfl rfl rfl rfl rfl rfl ?_
  refine Sq.fromX 5 rfl ?_
  refine Ql0 5 ty207 ?_
  refine Sq.thaw (β := T_api_Role) (γ := T_api_Grant) (b' := (({ e1.2.2.1 with f_Grants := e1.2.2.2.1 } : T_api_Role) : T_api_Role)) ((Lens.id T_api_Role).comp le_T_api_Role_Grants) 1 2 0 rfl rfl rfl rfl rfl rfl ?_
  refine Sq.fromX 1 rfl ?_
  refine Ql0 1 ty207 ?_
  obtain ⟨z5,hz5,h⟩:=Qbs h
  refine Qn hz5 (r_bsl (r := [z4, ({ e1.2.2.2.2.2.1 with f_Grants := e1.2.2.2.2.2.2.1 } : T_api_Role), ({ e1.2.2.1 with f_Grants := e1.2.2.2.1 } : T_api_Role)]) Try.underlying30 ty207 zr207 rfl rfl (.cons (by simp) (look_t rfl) (.cons (by simp) (look_t rfl) (.cons (by simp) (look_t rfl) (.nil))))) ?_
  refine Qa ?_
  refine Qnx ?_
  refine Wp.ret ?_
  refine To.bring 3 rfl ?_
  obtain rfl:=some_in h
  exact Qo1 ()
end Go.Proofs.Ytodajdohokmjnaa

namespace Go.Proofs.Ytodajdohokmjnaa
open Go Gv
set_option linter.unusedVariables false
set_option linter.unusedSimpArgs false
set_option maxRecDepth 100000
set_option maxHeartbeats 2000000
theorem C_mcase_Codes_Schema {x0 : T_mcase_Codes} {pp0 : Nat} {r : T_api_Schema × T_mcase_Codes} (h : L_mcase_Codes_Schema x0 = some r) : MeetsO Try.prog 13 [VP.eq (.pointer (some ⟨pp0, 0, none⟩))] [⟨some pp0, .var (x0 : T_mcase_Codes)⟩] (δ := Unit) (fun d => VP.of (r.1)) (fun d => [⟨some pp0, .var (r.2 : T_mcase_Codes)⟩]) := by
 unfold L_mcase_Codes_Schema at h
 refine MeetsO.of Try.func13 rfl Try.ntmps13 rfl fun W A => ?_
 refine Qsr ?_
 refine Qal zr33 fun p1 => ?_
 refine Qnr ?_
 refine Qm ?_
 refine Sq.bring 1 rfl ?_
 obtain ⟨y1,hy1,h⟩:=Qbs h
 refine QcO 1 en49 (C_mcase_Codes_Next hy1) fun q1 => ?_
 refine Q2 r_add ?_
 refine Qm ?_
 refine Sq.bring 0 rfl ?_
 obtain ⟨y2,hy2,h⟩:=Qbs h
 refine QcO 1 en49 (C_mcase_Codes_Next hy2) fun q2 => ?_
 refine Q2 r_add ?_
 refine Qv (r_buildX (b := ({ (default : T_api_Schema) with f_MaxBatch := w64 (2 + y1.1), f_Budget := w64 (12 + y2.1) } : T_api_Schema)) [5, 7] zh33_5_7 rfl bu33 zr33 (.cons le_T_api_Schema_MaxBatch rfl (look_t rfl) rfl (by rfl) (.cons le_T_api_Schema_Budget rfl (look_t rfl) rfl (by rfl) (.nil)))) ?_
 refine Sq.own (α := T_api_Stage) 131 ?_
 refine Sq.own (α := T_api_Ref) 133 ?_
 refine Sq.allocX (z := (default : T_api_Schema)) [5, 7] zh33_5_7 zr33 rfl fun p2 => ?_
 refine Sq.own (α := T_api_Stage) 131 ?_
 refine Sq.own (α := T_api_Ref) 133 ?_
 refine Sq.storeW (i := 2) ty33 (look_t rfl) (look_t rfl) rfl ?_
 refine Qnr ?_
 obtain ⟨z1,hz1,h⟩:=Qbs h
 refine Qn hz1 (r_build (b := { f_ID := 1, f_Name := ByteArray.mk #[105, 110, 103, 114, 101, 115, 115], f_Bits := 16 : T_api_Field }) rfl bu123 zr123 (.cons le_T_api_Field_ID rfl (look_int 1) rfl (.cons le_T_api_Field_Name rfl (look_str (ByteArray.mk #[105, 110, 103, 114, 101, 115, 115])) rfl (.cons le_T_api_Field_Bits rfl (look_int 16) rfl (.nil))))) ?_
 obtain ⟨z2,hz2,h⟩:=Qbs h
 refine Qn hz2 (r_build (b := { f_ID := 2, f_Name := ByteArray.mk #[101, 103, 114, 101, 115, 115], f_Bits := 16 : T_api_Field }) rfl bu123 zr123 (.cons le_T_api_Field_ID rfl (look_int 2) rfl (.cons le_T_api_Field_Name rfl (look_str (ByteArray.mk #[101, 103, 114, 101, 115, 115])) rfl (.cons le_T_api_Field_Bits rfl (look_int 16) rfl (.nil))))) ?_
 obtain ⟨z3,hz3,h⟩:=Qbs h
 refine Qn hz3 (r_build (b := { f_ID := 3, f_Name := ByteArray.mk #[109, 101, 116, 97], f_Bits := 8 : T_api_Field }) rfl bu123 zr123 (.cons le_T_api_Field_ID rfl (look_int 3) rfl (.cons le_T_api_Field_Name rfl (look_str (ByteArray.mk #[109, 101, 116, 97])) rfl (.cons le_T_api_Field_Bits rfl (look_int 8) rfl (.nil))))) ?_
 refine Qbd bu123 zr123 { f_ID := 4, f_Name := ByteArray.mk #[97], f_Bits := 4 : T_api_Field } (Qfl le_T_api_Field_ID (Qfl le_T_api_Field_Name (Qfl le_T_api_Field_Bits .nil))) ?_
 refine Qbd bu123 zr123 { f_ID := 5, f_Name := ByteArray.mk #[98], f_Bits := 4 : T_api_Field } (Qfl le_T_api_Field_ID (Qfl le_T_api_Field_Name (Qfl le_T_api_Field_Bits .nil))) ?_
 obtain ⟨z4,hz4,h⟩:=Qbs h
 refine Qn hz4 (r_build (b := { f_ID := 6, f_Name := ByteArray.mk #[101], f_Bits := 8 : T_api_Field }) rfl bu123 zr123 (.cons le_T_api_Field_ID rfl (look_int 6) rfl (.cons le_T_api_Field_Name rfl (look_str (ByteArray.mk #[101])) rfl (.cons le_T_api_Field_Bits rfl (look_int 8) rfl (.nil))))) ?_
 obtain ⟨z5,hz5,h⟩:=Qbs h
 refine Qn hz5 (r_build (b := { f_ID := 7, f_Name := ByteArray.mk #[100], f_Bits := 32 : T_api_Field }) rfl bu123 zr123 (.cons le_T_api_Field_ID rfl (look_int 7) rfl (.cons le_T_api_Field_Name rfl (look_str (ByteArray.mk #[100])) rfl (.cons le_T_api_Field_Bits rfl (look_int 32) rfl (.nil))))) ?_
 obtain ⟨z6,hz6,h⟩:=Qbs h
 refine Qn hz6 (r_build (b := { f_ID := 8, f_Name := ByteArray.mk #[102], f_Bits := 12 : T_api_Field }) rfl bu123 zr123 (.cons le_T_api_Field_ID rfl (look_int 8) rfl (.cons le_T_api_Field_Name rfl (look_str (ByteArray.mk #[102])) rfl (.cons le_T_api_Field_Bits rfl (look_int 12) rfl (.nil))))) ?_
 obtain ⟨z7,hz7,h⟩:=Qbs h
 refine Qn hz7 (r_build (b := { f_ID := 9, f_Name := ByteArray.mk #[103], f_Bits := 4 : T_api_Field }) rfl bu123 zr123 (.cons le_T_api_Field_ID rfl (look_int 9) rfl (.cons le_T_api_Field_Name rfl (look_str (ByteArray.mk #[103])) rfl (.cons le_T_api_Field_Bits rfl (look_int 4) rfl (.nil))))) ?_
 obtain ⟨z8,hz8,h⟩:=Qbs h
 refine Qn hz8 (r_bsl (r := [z1, z2, z3, { f_ID := 4, f_Name := ByteArray.mk #[97], f_Bits := 4 : T_api_Field }, { f_ID := 5, f_Name := ByteArray.mk #[98], f_Bits := 4 : T_api_Field }, z4, z5, z6, z7]) Try.underlying24 ty123 zr123 rfl rfl (.cons (by simp) (look_t rfl) (.cons (by simp) (look_t rfl) (.cons (by simp) (look_t rfl) (.cons (by simp) (look_t rfl) (.cons (by simp) (look_t rfl) (.cons (by simp) (look_t rfl) (.cons (by simp) (look_t rfl) (.cons (by simp) (look_t rfl) (.cons (by simp) (look_t rfl) (.nil))))))))))) ?_
 refine Q1 (r_fa fd33_0) ?_
 obtain ⟨z9,hz9,h⟩:=Qbs h
 refine Sq.storeX (i := 2) ((Lens.id T_api_Schema).comp le_T_api_Schema_Fields) (v := (z8 : List T_api_Field)) (b' := (z9 : T_api_Schema)) ty24 (look_t rfl) (look_t rfl) rfl rfl (some_in hz9) (by rfl) ?_
 refine Qnr ?_
 refine Qbl ([4, 5, 6] : List Int) Try.underlying64 ty3 zr3 ?_
 obtain ⟨z10,hz10,h⟩:=Qbs h
 refine Qn hz10 (r_build (b := { f_ID := 1, f_Name := ByteArray.mk #[111, 110, 101], f_Fields := ([4, 5, 6] : List Int) : T_api_Header }) rfl bu125 zr125 (.cons le_T_api_Header_ID rfl (look_int 1) rfl (.cons le_T_api_Header_Name rfl (look_str (ByteArray.mk #[111, 110, 101])) rfl (.cons le_T_api_Header_Fields rfl (look_t rfl) rfl (.nil))))) ?_
 refine Qbl ([7] : List Int) Try.underlying64 ty3 zr3 ?_
 obtain ⟨z11,hz11,h⟩:=Qbs h
 refine Qn hz11 (r_build (b := { f_ID := 2, f_Name := ByteArray.mk #[116, 119, 111], f_Fields := ([7] : List Int) : T_api_Header }) rfl bu125 zr125 (.cons le_T_api_Header_ID rfl (look_int 2) rfl (.cons le_T_api_Header_Name rfl (look_str (ByteArray.mk #[116, 119, 111])) rfl (.cons le_T_api_Header_Fields rfl (look_t rfl) rfl (.nil))))) ?_
 refine Qbl ([8, 9] : List Int) Try.underlying64 ty3 zr3 ?_
 obtain ⟨z12,hz12,h⟩:=Qbs h
 refine Qn hz12 (r_build (b := { f_ID := 3, f_Name := ByteArray.mk #[116, 104, 114, 101, 101], f_Fields := ([8, 9] : List Int) : T_api_Header }) rfl bu125 zr125 (.cons le_T_api_Header_ID rfl (look_int 3) rfl (.cons le_T_api_Header_Name rfl (look_str (ByteArray.mk #[116, 104, 114, 101, 101])) rfl (.cons le_T_api_Header_Fields rfl (look_t rfl) rfl (.nil))))) ?_
 refine Qbl [z10, z11, z12] Try.underlying25 ty125 zr125 ?_
 refine Q1 (r_fa fd33_1) ?_
 refine Sq.storeX (i := 2) ((Lens.id T_api_Schema).comp le_T_api_Schema_Headers) (v := ([z10, z11, z12] : List T_api_Header)) (b' := (({ z9 with f_Headers := [z10, z11, z12] } : T_api_Schema) : T_api_Schema)) ty25 (look_t rfl) (look_t rfl) rfl rfl rfl (by rfl) ?_
 refine Qnr ?_
 refine Qm ?_
 refine Sq.bring 5 rfl ?_
 obtain ⟨y3,hy3,h⟩:=Qbs h
 refine QcO 1 en50 (C_mcase_Codes_states hy3) fun q3 => ?_
 refine Qm ?_
 refine Sq.bring 0 rfl ?_
 obtain ⟨y4,hy4,h⟩:=Qbs h
 refine QcO 1 en51 (C_mcase_Codes_actions hy4) fun q4 => ?_
 refine Qm ?_
 refine Sq.bring 0 rfl ?_
 obtain ⟨y5,hy5,h⟩:=Qbs h
 refine QcO 1 en52 (C_mcase_Codes_tables hy5) fun q5 => ?_
 refine Q1 (r_fa fd33_2) ?_
 obtain ⟨z13,hz13,h⟩:=Qbs h
 refine Sq.storeX (i := 3) ((Lens.id T_api_Schema).comp le_T_api_Schema_States) (v := (y3.1 : List T_api_State)) (b' := (z13 : T_api_Schema)) ty26 (look_t rfl) (look_t rfl) rfl rfl (some_in hz13) (by rfl) ?_
 refine Q1 (r_fa fd33_3) ?_
 refine Sq.storeX (i := 3) ((Lens.id T_api_Schema).comp le_T_api_Schema_Actions) (v := (y4.1 : List T_api_Action)) (b' := (({ z13 with f_Actions := y4.1 } : T_api_Schema) : T_api_Schema)) ty27 (look_t rfl) (look_t rfl) rfl rfl rfl (by rfl) ?_
 refine Q1 (r_fa fd33_4) ?_
 obtain ⟨z14,hz14,h⟩:=Qbs h
 refine Sq.storeX (i := 3) ((Lens.id T_api_Schema).comp le_T_api_Schema_Tables) (v := (y5.1 : List T_api_Table)) (b' := (z14 : T_api_Schema)) ty28 (look_t rfl) (look_t rfl) rfl rfl (some_in hz14) (by rfl) ?_
 refine Qnr ?_
 refine Qm ?_
 refine Q1 (r_fa fd33_4) ?_
 refine Qlx 3 le_T_api_Schema_Tables ty28 ?_
 refine Sq.bring 0 rfl ?_
 obtain ⟨y6,hy6,h⟩:=Qbs h
 refine QcO 1 en53 (C_mcase_Codes_roles hy6) fun q6 => ?_
 refine Q1 (r_fa fd33_6) ?_
 refine Sq.storeX (i := 3) ((Lens.id T_api_Schema).comp le_T_api_Schema_Roles) (v := (y6.1 : List T_api_Role)) (b' := (({ z14 with f_Roles := y6.1 } : T_api_Schema) : T_api_Schema)) ty30 (look_t rfl) (look_t rfl) rfl rfl rfl (by rfl) ?_
 refine Qnr ?_
 refine Qbd bu131 zr131 { f_Table := 1, f_Header := 1 : T_api_Stage } (Qfl le_T_api_Stage_Table (Qfl le_T_api_Stage_Header .nil)) ?_
 refine Qbd bu131 zr131 { f_Table := 2, f_Header := 2 : T_api_Stage } (Qfl le_T_api_Stage_Table (Qfl le_T_api_Stage_Header .nil)) ?_
 refine Qbd bu131 zr131 ({ (default : T_api_Stage) with f_Table := 3 } : T_api_Stage) (Qfl le_T_api_Stage_Table .nil) ?_
 refine Qbd bu131 zr131 { f_Table := 4, f_Header := 3 : T_api_Stage } (Qfl le_T_api_Stage_Table (Qfl le_T_api_Stage_Header .nil)) ?_
 obtain ⟨z15,hz15,h⟩:=Qbs h
 refine Sq.bslN (α := T_api_Stage) (r0 := [{ f_Table := 1, f_Header := 1 : T_api_Stage }, { f_Table := 2, f_Header := 2 : T_api_Stage }, ({ (default : T_api_Stage) with f_Table := 3 } : T_api_Stage), { f_Table := 4, f_Header := 3 : T_api_Stage }]) (r := z15) Try.underlying29 ty131 zr131 rfl rfl (.cons (by simp) (look_t rfl) (.cons (by simp) (look_t rfl) (.cons (by simp) (look_t rfl) (.cons (by simp) (look_t rfl) (.nil))))) (some_in hz15) rfl fun key1 => ?_
 refine Q1 (r_fa fd33_5) ?_
 refine Sq.storeH (i := 4) (γ := T_api_Stage) (b' := (({ ({ z14 with f_Roles := y6.1 } : T_api_Schema) with f_Stages := [] } : T_api_Schema) : T_api_Schema)) (os' := [(5, slv key1 z15.length 4), (7, slv none ([] : List T_api_Ref).length 0)]) ((Lens.id T_api_Schema).comp le_T_api_Schema_Stages) ty29 (look_t rfl) (look_t rfl) slv_one rfl rfl rfl rfl ?_
 refine Qns ?_
 refine Qsr ?_
 refine Qm ?_
 refine Sq.bring 1 rfl ?_
 obtain ⟨y7,hy7,h⟩:=Qbs h
 refine QcO 1 en54 (C_mcase_Codes_Bool hy7) fun q7 => ?_
 refine Qnx ?_
 obtain ⟨m1,hm1,h⟩:=Qbs h
 refine Qcm (γ:=(Option Nat × Nat)) [0, 2, 3, 51] (fun g1 => []) (fun g1 => [(1, ⟨g1.1, .row 131 (m1 : List T_api_Stage) g1.2⟩), (4, ⟨some p2, .varX (({ ({ z14 with f_Roles := y6.1 } : T_api_Schema) with f_Stages := [] } : T_api_Schema) : T_api_Schema) [(5, slv g1.1 m1.length g1.2), (7, slv none ([] : List T_api_Ref).length 0)]⟩)]) (fun g1 => ?_) (fun hm hc => ?_) fun hm hc => ?_
 ·clear hm1
  refine To.next ?_
  refine Wp.seq ?_
  refine Qsr ?_
  refine Qm ?_
  refine Sq.bring 0 rfl ?_
  obtain ⟨y8,hy8,h⟩:=Qbs h
  refine QcO 1 en54 (C_mcase_Codes_Bool hy8) fun q8 => ?_
  refine Qnx ?_
  obtain ⟨m2,hm2,h⟩:=Qbs h
  refine Qcm (γ:=(Option Nat × Nat)) [0, 2, 3, 51, 59] (fun g2 => []) (fun g2 => [(4, ⟨some p2, .varX (m2.1 : T_api_Schema) [(5, slv g1.1 m1.length g1.2), (7, slv g2.1 m2.2.length g2.2)]⟩), (5, ⟨g2.1, .row 133 (m2.2 : List T_api_Ref) g2.2⟩)]) (fun g2 => ?_) (fun hm hc => ?_) fun hm hc => ?_
  ·clear hm2
   refine To.next ?_
   refine Wp.seq ?_
   refine Qsr ?_
   refine Qm ?_
   refine Sq.bring 0 rfl ?_
   obtain ⟨y9,hy9,h⟩:=Qbs h
   refine QcO 1 en54 (C_mcase_Codes_Bool hy9) fun q9 => ?_
   refine Qm ?_
   refine Qg1 (r_fa fd33_4) ?_
   refine Qg (fun hb => r_loadX (i := 4) ((Lens.id T_api_Schema).comp le_T_api_Schema_Tables) (r := m2.1.f_Tables) ty28 (look_tc rfl hb) rfl rfl rfl (by rfl)) ?_
   obtain ⟨k1,hk1,h⟩:=Qbs h
   refine Qg (fun hb => r_ias (k := k1) Try.underlying28 ty136 (look_tc rfl hb) (look_int 2) (idx_some (condM_some hk1 hb))) ?_
   refine Qg (fun hb => r_fap le_T_api_Table_Keys fd136_2 (look_tc rfl hb) rfl rfl) ?_
   refine Qg1 (r_loadp ty134) ?_
   refine Qg1 (r_len Try.underlying134) ?_
   refine Qg2 r_eql ?_
   refine Qan ?_
   refine Qnx ?_
   obtain ⟨m3,hm3,h⟩:=Qbs h
   refine Qcm (γ:=(Option Nat × Nat)) [0, 2, 3, 51, 59, 76] (fun g3 => []) (fun g3 => [(4, ⟨some p2, .varX (m3.1 : T_api_Schema) [(5, slv g1.1 m1.length g1.2), (7, slv g3.1 m3.2.length g3.2)]⟩), (5, ⟨g3.1, .row 133 (m3.2 : List T_api_Ref) g3.2⟩)]) (fun g3 => ?_) (fun hm hc => ?_) fun hm hc => ?_
   ·clear hm3
    refine To.next ?_
    refine Wp.seq ?_
    refine Qsr ?_
    refine Qm ?_
    refine Sq.bring 0 rfl ?_
    obtain ⟨y10,hy10,h⟩:=Qbs h
    refine QcO 1 en54 (C_mcase_Codes_Bool hy10) fun q10 => ?_
    refine Qm ?_
    refine Qg1 (r_fa fd33_4) ?_
    refine Qg (fun hb => r_loadX (i := 4) ((Lens.id T_api_Schema).comp le_T_api_Schema_Tables) (r := m3.1.f_Tables) ty28 (look_tc rfl hb) rfl rfl rfl (by rfl)) ?_
    obtain ⟨k2,hk2,h⟩:=Qbs h
    refine Qg (fun hb => r_ias (k := k2) Try.underlying28 ty136 (look_tc rfl hb) (look_int 3) (idx_some (condM_some hk2 hb))) ?_
    refine Qg (fun hb => r_fap le_T_api_Table_Keys fd136_2 (look_tc rfl hb) rfl rfl) ?_
    refine Qg1 (r_loadp ty134) ?_
    refine Qg1 (r_len Try.underlying134) ?_
    refine Qg2 r_eql ?_
    refine Qan ?_
    refine Qnx ?_
    obtain ⟨m4,hm4,h⟩:=Qbs h
    refine Qcm (γ:=(Option Nat × Nat)) [0, 2, 3, 51, 59, 76, 93] (fun g4 => []) (fun g4 => [(4, ⟨some p2, .varX (m4.1 : T_api_Schema) [(5, slv g1.1 m1.length g1.2), (7, slv g4.1 m4.2.length g4.2)]⟩), (5, ⟨g4.1, .row 133 (m4.2 : List T_api_Ref) g4.2⟩)]) (fun g4 => ?_) (fun hm hc => ?_) fun hm hc => ?_
    ·clear hm4
     refine To.next ?_
     refine Qsr ?_
     refine Sq.thaw (β := T_api_Schema) (γ := T_api_Stage) (b' := (({ m4.1 with f_Stages := m1 } : T_api_Schema) : T_api_Schema)) ((Lens.id T_api_Schema).comp le_T_api_Schema_Stages) 4 1 0 rfl rfl rfl rfl rfl rfl ?_
     refine Sq.thaw (β := T_api_Schema) (γ := T_api_Ref) (b' := (({ ({ m4.1 with f_Stages := m1 } : T_api_Schema) with f_Refs := m4.2 } : T_api_Schema) : T_api_Schema)) ((Lens.id T_api_Schema).comp le_T_api_Schema_Refs) 4 5 0 rfl rfl rfl rfl rfl rfl ?_
     refine Sq.fromX 4 rfl ?_
     obtain ⟨z16,hz16,h⟩:=Qbs h
     refine Qn hz16 (r_load (i := 4) (Lens.id T_api_Schema) (r := ({ ({ m4.1 with f_Stages := m1 } : T_api_Schema) with f_Refs := m4.2 } : T_api_Schema)) ty33 (look_t rfl) rfl rfl rfl) ?_
     refine Qs0 7 ty33 ?_
     refine Qnx ?_
     refine Wp.ret ?_
     refine To.bring 0 rfl ?_
     obtain rfl:=some_in h
     exact To.endO1 () (.cons_cons _ (List.nil_sublist _)) rfl rfl (rvo_c (i := 7) ty33 rfl rfl)
    ·have h := cond_t hc hm4
     refine Wp.reg ?_
     refine Q1 (r_fa fd33_7) ?_
     refine Qv (r_loadH (i := 4) (q := 1) (β := T_api_Schema) (γ := T_api_Ref) ty31 (look_t rfl) rfl rfl) ?_
     obtain ⟨z17,hz17,h⟩:=Qbs h
     refine Qn hz17 (r_build (b := ({ (default : T_api_Ref) with f_Table := 4, f_Key := 1, f_ToTable := 1 } : T_api_Ref)) rfl bu133 zr133 (.cons le_T_api_Ref_Table rfl (look_int 4) rfl (.cons le_T_api_Ref_Key rfl (look_int 1) rfl (.cons le_T_api_Ref_ToTable rfl (look_int 1) rfl (.nil))))) ?_
     obtain ⟨z18,hz18,h⟩:=Qbs h
     refine Qn hz18 (r_build (b := ({ (default : T_api_Ref) with f_Table := 4, f_Action := 5, f_ToTable := 1 } : T_api_Ref)) rfl bu133 zr133 (.cons le_T_api_Ref_Table rfl (look_int 4) rfl (.cons le_T_api_Ref_Action rfl (look_int 5) rfl (.cons le_T_api_Ref_ToTable rfl (look_int 1) rfl (.nil))))) ?_
     refine Qbl [z17, z18] Try.underlying31 ty133 zr133 ?_
     obtain ⟨y11,hy11,h⟩:=Qbs h
     refine Qap 5 Try.underlying31 ty133 zr133 hy11 fun key2 cap1 => ?_
     refine Q1 (r_fa fd33_7) ?_
     refine Sq.storeH (i := 4) (γ := T_api_Ref) (b' := (({ m3.1 with f_Refs := [] } : T_api_Schema) : T_api_Schema)) (os' := [(5, slv g1.1 m1.length g1.2), (7, slv key2 y11.length cap1)]) ((Lens.id T_api_Schema).comp le_T_api_Schema_Refs) ty31 (look_t rfl) (look_t rfl) slv_one rfl rfl rfl rfl ?_
     refine Sq.nil ?_
     obtain rfl:=some_in h
     exact Qmt 0 (hm (key2, cap1))
    ·have h := cond_f hc hm4
     refine Wp.skip ?_
     obtain rfl:=some_in h
     exact Qmt 0 (hm (g3.1, g3.2))
   ·have h := cond_t hc hm3
    refine Wp.reg ?_
    refine Q1 (r_fa fd33_7) ?_
    refine Qv (r_loadH (i := 4) (q := 1) (β := T_api_Schema) (γ := T_api_Ref) ty31 (look_t rfl) rfl rfl) ?_
    obtain ⟨z19,hz19,h⟩:=Qbs h
    refine Qn hz19 (r_build (b := ({ (default : T_api_Ref) with f_Table := 3, f_Key := 2, f_ToTable := 1 } : T_api_Ref)) rfl bu133 zr133 (.cons le_T_api_Ref_Table rfl (look_int 3) rfl (.cons le_T_api_Ref_Key rfl (look_int 2) rfl (.cons le_T_api_Ref_ToTable rfl (look_int 1) rfl (.nil))))) ?_
    refine Qbl [z19] Try.underlying31 ty133 zr133 ?_
    obtain ⟨y12,hy12,h⟩:=Qbs h
    refine Qap 5 Try.underlying31 ty133 zr133 hy12 fun key3 cap2 => ?_
    refine Q1 (r_fa fd33_7) ?_
    refine Sq.storeH (i := 4) (γ := T_api_Ref) (b' := (({ m2.1 with f_Refs := [] } : T_api_Schema) : T_api_Schema)) (os' := [(5, slv g1.1 m1.length g1.2), (7, slv key3 y12.length cap2)]) ((Lens.id T_api_Schema).comp le_T_api_Schema_Refs) ty31 (look_t rfl) (look_t rfl) slv_one rfl rfl rfl rfl ?_
    refine Sq.nil ?_
    obtain rfl:=some_in h
    exact Qmt 0 (hm (key3, cap2))
   ·have h := cond_f hc hm3
    refine Wp.skip ?_
    obtain rfl:=some_in h
    exact Qmt 0 (hm (g2.1, g2.2))
  ·have h := cond_t hc hm2
   refine Wp.reg ?_
   refine Q1 (r_fa fd33_7) ?_
   refine Qv (r_loadH (i := 4) (q := 1) (β := T_api_Schema) (γ := T_api_Ref) ty31 (look_t rfl) rfl rfl) ?_
   obtain ⟨z20,hz20,h⟩:=Qbs h
   refine Qn hz20 (r_build (b := ({ (default : T_api_Ref) with f_Table := 2, f_Action := 4, f_ToTable := 1 } : T_api_Ref)) rfl bu133 zr133 (.cons le_T_api_Ref_Table rfl (look_int 2) rfl (.cons le_T_api_Ref_Action rfl (look_int 4) rfl (.cons le_T_api_Ref_ToTable rfl (look_int 1) rfl (.nil))))) ?_
   refine Qbl [z20] Try.underlying31 ty133 zr133 ?_
   obtain ⟨y13,hy13,h⟩:=Qbs h
   refine Qap 5 Try.underlying31 ty133 zr133 hy13 fun key4 cap3 => ?_
   refine Q1 (r_fa fd33_7) ?_
   refine Sq.storeH (i := 4) (γ := T_api_Ref) (b' := (({ ({ ({ z14 with f_Roles := y6.1 } : T_api_Schema) with f_Stages := [] } : T_api_Schema) with f_Refs := [] } : T_api_Schema) : T_api_Schema)) (os' := [(5, slv g1.1 m1.length g1.2), (7, slv key4 y13.length cap3)]) ((Lens.id T_api_Schema).comp le_T_api_Schema_Refs) ty31 (look_t rfl) (look_t rfl) slv_one rfl rfl rfl rfl ?_
   refine Sq.nil ?_
   obtain rfl:=some_in h
   exact Qmt 0 (hm (key4, cap3))
  ·have h := cond_f hc hm2
   refine Wp.skip ?_
   obtain rfl:=some_in h
   exact Qmt 0 (hm (none, 0))
 ·have h := cond_t hc hm1
  refine Wp.reg ?_
  refine Q1 (r_fa fd33_5) ?_
  refine Qv (r_loadH (i := 4) (q := 0) (β := T_api_Schema) (γ := T_api_Stage) ty29 (look_t rfl) rfl rfl) ?_
  refine Qbd bu131 zr131 ({ (default : T_api_Stage) with f_Table := 1 } : T_api_Stage) (Qfl le_T_api_Stage_Table .nil) ?_
  refine Qbl [({ (default : T_api_Stage) with f_Table := 1 } : T_api_Stage)] Try.underlying29 ty131 zr131 ?_
  obtain ⟨y14,hy14,h⟩:=Qbs h
  refine Qap 1 Try.underlying29 ty131 zr131 hy14 fun key5 cap4 => ?_
  refine Q1 (r_fa fd33_5) ?_
  refine Sq.storeH (i := 4) (γ := T_api_Stage) (b' := (({ ({ z14 with f_Roles := y6.1 } : T_api_Schema) with f_Stages := [] } : T_api_Schema) : T_api_Schema)) (os' := [(5, slv key5 y14.length cap4), (7, slv none ([] : List T_api_Ref).length 0)]) ((Lens.id T_api_Schema).comp le_T_api_Schema_Stages) ty29 (look_t rfl) (look_t rfl) slv_one rfl rfl rfl rfl ?_
  refine Sq.nil ?_
  obtain rfl:=some_in h
  exact Qmt 0 (hm (key5, cap4))
 ·have h := cond_f hc hm1
  refine Wp.skip ?_
  obtain rfl:=some_in h
  exact Qmt 0 (hm (key1, 4))
theorem C_entry_Beats {x0 : T_api_Schema} {x1 : T_api_Installed} {x2 : T_api_Installed}  {r : Bool} (h : L_entry_Beats x0 x1 x2 = some r) : Meets Try.prog 119 [VP.of (x0), VP.of (x1), VP.of (x2)] (VP.of (r)) := by
 unfold L_entry_Beats at h
 refine Meets.of Try.func119 rfl Try.ntmps119 rfl fun W A => ?_
 refine Qsr ?_
 refine Qbx fun p1 => ?_
 refine Qbx fun p2 => ?_
 refine Qbx fun p3 => ?_
 refine Qa ?_
 refine Qns ?_
 obtain ⟨y1,hy1,h⟩:=Qbs h
 obtain ⟨y2,hy2,h⟩:=Qbs h
 obtain ⟨y3,hy3,h⟩:=Qbs h
 obtain ⟨y4,hy4,h⟩:=Qbs h
 obtain ⟨y5,hy5,h⟩:=Qbs h
 obtain ⟨y6,hy6,h⟩:=Qbs h
 refine Wp.draw mixed 24 ((some 7) :: (some 8) :: (some 9) :: (some 10) :: (some 11) :: (some 12) :: (some 13) :: (some 14) :: (some 15) :: (some 16) :: (some 17) :: (some 18) :: (some 19) :: (some 20) :: (some 21) :: (some 22) :: (some 23) :: (some 24) :: (some 25) :: (some 26) :: (some 27) :: (some 28) :: (some 29) :: (some 30) :: []) ([] :: [0] :: [1] :: [] :: [3] :: [4] :: [2, 5] :: [] :: [] :: [8] :: [7, 9] :: [] :: [] :: [12] :: [11, 13] :: [10, 14] :: [] :: [16] :: [] :: [18] :: [17, 19] :: [6, 15, 20] :: [21] :: [22] :: []) (.val _ :: .val _ :: .val _ :: .val _ :: .val _ :: .val _ :: .val _ :: .val _ :: .val _ :: .val _ :: .val _ :: .val _ :: .val _ :: .val _ :: .val _ :: .val _ :: .val _ :: .val _ :: .val _ :: .val _ :: .val _ :: .val _ :: .val _ :: .val _ :: []) (false :: false :: false :: false :: false :: false :: false :: false :: false :: false :: false :: false :: false :: false :: false :: false :: false :: false :: false :: false :: false :: false :: false :: false :: []) (by kernel_rfl) rfl rfl rfl (fun ps1 => ⟨H1 (r_fa fd92_0), H1 (r_fa fd89_2), Hld 1 (le_T_api_Installed_Entry.comp le_T_api_Entry_Priority) ty3, H1 (r_fa fd92_0), H1 (r_fa fd89_2), Hld 0 (le_T_api_Installed_Entry.comp le_T_api_Entry_Priority) ty3, Hcl en145 (C_cmp_Compare_int hy1), Hl0 2 ty33, H1 (r_fa fd92_0), Hld 1 le_T_api_Installed_Entry ty89, Hcl en146 (C_entry_Prefix hy2), Hl0 2 ty33, H1 (r_fa fd92_0), Hld 0 le_T_api_Installed_Entry ty89, Hcl en146 (C_entry_Prefix hy3), Hcl en145 (C_cmp_Compare_int hy4), H1 (r_fa fd92_1), Hld 1 le_T_api_Installed_Number ty3, H1 (r_fa fd92_1), Hld 0 le_T_api_Installed_Number ty3, Hcl en145 (C_cmp_Compare_int hy5), Hv fun L' hL => r_bsl (r := [y1, y4, y5]) Try.underlying64 ty3 zr3 rfl rfl (.cons (by simp) (look_t rfl) (.cons (by simp) (look_t rfl) (.cons (by simp) (look_t rfl) (.nil)))), Hcl en144 (C_entry_first hy6), H2 r_gtr, trivial⟩) fun ps1 => ?_
 refine Qa ?_
 refine Qnx ?_
 refine Wp.ret ?_
 obtain rfl:=some_in h
 exact Qe1
end Go.Proofs.Ytodajdohokmjnaa

namespace Go.Proofs.Ytodajdohokmjnaa
open Go Gv
set_option linter.unusedVariables false
set_option linter.unusedSimpArgs false
set_option maxRecDepth 100000
set_option maxHeartbeats 2000000
theorem C_ref04_KeyBits {x0 : T_api_Schema} {x1 : T_api_Table} {x2 : Int}  {r : Int} (h : L_ref04_KeyBits x0 x1 x2 = some r) : Meets Try.prog 88 [VP.of (x0), VP.of (x1), VP.of (x2)] (VP.of (r)) := by
 unfold L_ref04_KeyBits at h
 refine Meets.of Try.func88 rfl Try.ntmps88 rfl fun W A => ?_
 refine Qsr ?_
 refine Qbx fun p1 => ?_
 refine Qbx fun p2 => ?_
 refine Qa ?_
 refine Qns ?_
 obtain ⟨k1,hk1,h⟩:=Qbs h
 obtain ⟨y1,hy1,h⟩:=Qbs h
 refine Wp.draw mixed 8 [some 7, some 8, some 9, some 10, some 11, some 12, some 13, some 14] [[], [], [1], [], [2, 3], [4], [5], [0, 6]] [.val _, .val _, .val _, .val _, .val _, .val _, .val _, .val _] [false, false, false, false, false, false, false, false] (by kernel_rfl) rfl rfl rfl (fun ps1 => ⟨Hl0 1 ty33, H1 (r_fa fd136_2), Hld 0 le_T_api_Table_Keys ty134, Hm, Hix hk1 Try.underlying134 ty163, Hfp le_T_api_Key_Field fd163_1, H1 (r_loadp ty3), Hcl en123 (C_ref04_Bits hy1), trivial⟩) fun ps1 => ?_
 refine Qa ?_
 refine Qnx ?_
 refine Wp.ret ?_
 obtain rfl:=some_in h
 exact Qe1
theorem C_ref10_matches {x0 : List T_api_Match} {x1 : List T_api_Match}  {r : Int} (h : L_ref10_matches x0 x1 = some r) : Meets Try.prog 151 [VP.of (x0), VP.of (x1)] (VP.of (r)) := by
 unfold L_ref10_matches at h
 refine Meets.of Try.func151 rfl Try.ntmps151 rfl fun W A => ?_
 refine Qsr ?_
 refine Qa ?_
 refine Qns ?_
 refine Qsr ?_
 refine Qa ?_
 refine Qnx ?_
 refine Wp.block ?_
 obtain ⟨e1,hl,h⟩:=Qbs h
 refine Qlp (γ:=Unit) (δ:=Unit) hl [0, 1] (fun s1 g1 => [(4, VP.of (0 : Int)), (5, VP.of (s1))]) (fun s1 g1 => []) (fun q1 => Sum.elim (fun q1 => Exit.exit 0) (fun q1 => Exit.ret) q1) (fun q1 g1 => Sum.elim (fun q1 => [(4, VP.of (0 : Int)), (5, VP.of (q1.1)), (16, VP.of (q1.2))]) (fun q1 => [(4, VP.of (q1.1)), (5, VP.of (q1.2.1)), (6, VP.of (q1.2.2.1)), (16, VP.of (q1.2.2.2.1)), (29, VP.of (q1.2.2.2.2))]) q1) (fun q1 g1 => Sum.elim (fun q1 => []) (fun q1 => []) q1) () (fun s1 r h g1 => ?_) fun g1 => ?_
 ·clear hl
  refine Wp.seq ?_
  refine Qsr ?_
  refine Qm ?_
  refine Qm ?_
  refine Q1 (r_len Try.underlying87) ?_
  refine Q2 r_lss ?_
  refine Qm ?_
  refine Qg1 r_move ?_
  refine Qg1 r_move ?_
  refine Qg1 (r_len Try.underlying87) ?_
  refine Qg2 r_lss ?_
  refine Qan ?_
  refine Qnx ?_
  refine Qcd h (fun h=>?_) fun h=>?_
  ·refine Qkn ?_
   refine Wp.seq ?_
   refine Wp.block ?_
   refine Wp.seq ?_
   obtain ⟨k1,hk1,h⟩:=Qbs h
   obtain ⟨k2,hk2,h⟩:=Qbs h
   obtain ⟨y1,hy1,h⟩:=Qbs h
   refine Wp.draw mixed 9 [some 19, some 20, some 21, some 22, some 23, some 24, some 25, some 26, some 27] [[], [], [0, 1], [2], [], [], [4, 5], [6], [3, 7]] [.val _, .val _, .val _, .val _, .val _, .val _, .val _, .val _, .val _] [false, false, false, false, false, false, false, false, false] (by kernel_rfl) rfl rfl rfl (fun ps1 => ⟨Hm, Hm, Hix hk1 Try.underlying87 ty104, H1 (r_loadp ty104), Hm, Hm, Hix hk2 Try.underlying87 ty104, H1 (r_loadp ty104), Hcl en181 (C_ref10_match hy1), trivial⟩) fun ps1 => ?_
   refine Qa ?_
   refine Qnr ?_
   refine Qm ?_
   refine Q2 r_neq ?_
   refine Qnx ?_
   refine Qcd h (fun h=>?_) fun h=>?_
   ·refine Qsr ?_
    refine Qm ?_
    refine Qa ?_
    refine Qnx ?_
    refine Wp.ret ?_
    refine To.bret ?_
    refine To.ret ?_
    obtain rfl:=some_in h
    exact Qlv () 0
   ·refine Wp.skip ?_
    refine To.bnorm ?_
    refine To.next ?_
    refine Wp.reg ?_
    refine Qm ?_
    refine Q2 r_add ?_
    refine Qa ?_
    refine Sq.nil ?_
    obtain rfl:=some_in h
    exact Qrd () 0
  ·refine Wp.exit ?_
   refine To.exit ?_
   obtain rfl:=some_in h
   exact Qlv () 0
 ·clear hl
  rcases e1 with e1 | e1
  ·simp only [Sum.elim_inl] at h
   refine To.bexit ?_
   refine To.next ?_
   refine Qsr ?_
   refine Qm ?_
   refine Q1 (r_len Try.underlying87) ?_
   refine Qm ?_
   refine Q1 (r_len Try.underlying87) ?_
   obtain ⟨y2,hy2,h⟩:=Qbs h
   refine Qcl en150 (C_ref10_number hy2) ?_
   refine Qa ?_
   refine Qnx ?_
   refine Wp.ret ?_
   obtain rfl:=some_in h
   exact Qe1
  ·simp only [Sum.elim_inr] at h
   refine To.bret ?_
   refine To.ret ?_
   obtain rfl:=some_in h
   exact Qe1
theorem Cl0_own_List {x0 : List T_api_Installed} {key00 : Option Nat} {cap00 : Nat} {r : (List T_api_Installed)} (h : Ll0_own_List x0 = some r) : MeetsO Try.prog 93 [VP.eq (slv key00 x0.length cap00)] [⟨key00, .row 92 (x0 : List T_api_Installed) cap00⟩] (δ := Unit) (fun d => VP.of (r)) (fun d => [⟨key00, .row 92 (x0 : List T_api_Installed) cap00⟩]) := by
 unfold Ll0_own_List at h
 refine MeetsO.of Try.func93 rfl Try.ntmps93 rfl fun W A => ?_
 refine Qsr ?_
 refine Qv (r_asg (look_nil (α := T_api_Installed))) ?_
 refine Qnr ?_
 refine Sq.own (α := T_api_Installed) 92 ?_
 refine Qv (r_asg look_own) ?_
 refine Qns ?_
 refine Qsr ?_
 refine Qm ?_
 refine Qv (r_lenO (i := 1) Try.underlying84 (look_t rfl) rfl rfl) ?_
 refine Qm ?_
 refine Qnx ?_
 refine Wp.block ?_
 obtain ⟨e1,hl,h⟩:=Qbs h
 refine Qlp (γ:=(Option Nat × Nat)) (δ:=(Option Nat × Nat)) hl [0, 2, 6, 7] (fun s1 g1 => [(3, VP.eq (slv g1.1 s1.2.length g1.2)), (8, VP.of (s1.1))]) (fun s1 g1 => [(0, ⟨g1.1, .row 92 (s1.2 : List T_api_Installed) g1.2⟩)]) (fun q1 => Exit.exit 0) (fun q1 g1 => [(3, VP.eq (slv g1.1 q1.2.2.length g1.2)), (8, VP.of (q1.1)), (9, VP.of (q1.2.1))]) (fun q1 g1 => [(0, ⟨g1.1, .row 92 (q1.2.2 : List T_api_Installed) g1.2⟩)]) (none, 0) (fun s1 r h g1 => ?_) fun g1 => ?_
 ·clear hl
  refine Qsr ?_
  refine Q2 r_lss ?_
  refine Qns ?_
  refine Qcd h (fun h=>?_) fun h=>?_
  ·refine Qkn ?_
   refine Wp.seq ?_
   refine Wp.block ?_
   refine Qsr ?_
   obtain ⟨k1,hk1,h⟩:=Qbs h
   refine Qv (r_iaO (i := 1) (k := k1) (xs := (x0 : List T_api_Installed)) Try.underlying84 ty92 (look_t rfl) (look_t rfl) rfl (idx_some hk1)) ?_
   refine Qv (r_loadR (i := 1) (k := k1) (Lens.id T_api_Installed) (r := (lget x0 k1)) ty92 (look_t rfl) rfl (idx_some hk1).1 rfl rfl) ?_
   refine Qal zr92 fun p1 => ?_
   refine Qs0 0 ty92 ?_
   refine Qnx ?_
   refine Wp.reg ?_
   refine Qm ?_
   refine Ql0 0 ty92 ?_
   obtain ⟨y1,hy1,h⟩:=Qbs h
   refine Qcl en81 (C_own_Installed hy1) ?_
   refine Qbl [y1] Try.underlying84 ty92 zr92 ?_
   obtain ⟨y2,hy2,h⟩:=Qbs h
   refine Qap 1 Try.underlying84 ty92 zr92 hy2 fun key1 cap1 => ?_
   refine Qa ?_
   refine Sq.nil ?_
   refine To.bnorm ?_
   refine To.next ?_
   refine Wp.reg ?_
   refine Q2 r_add ?_
   refine Qm ?_
   refine Sq.nil ?_
   obtain rfl:=some_in h
   exact Qrd (key1, cap1) 1
  ·refine Wp.exit ?_
   refine To.exit ?_
   obtain rfl:=some_in h
   exact Qlv (g1.1, g1.2) 0
 ·clear hl
  refine To.bexit ?_
  refine To.next ?_
  refine Qsr ?_
  refine Qm ?_
  refine Qa ?_
  refine Qnx ?_
  refine Wp.ret ?_
  refine To.freezeL (α := T_api_Installed) 0 [2, 3, 18] ⟨rfl, rfl, rfl, trivial⟩ rfl ?_
  refine To.bring 1 rfl ?_
  obtain rfl:=some_in h
  exact Qo1 ()
theorem C_ref10_Beats {x0 : T_api_Schema} {x1 : T_api_Installed} {x2 : T_api_Installed}  {r : Bool} (h : L_ref10_Beats x0 x1 x2 = some r) : Meets Try.prog 94 [VP.of (x0), VP.of (x1), VP.of (x2)] (VP.of (r)) := by
 unfold L_ref10_Beats at h
 refine Meets.of Try.func94 rfl Try.ntmps94 rfl fun W A => ?_
 refine Qsr ?_
 refine Qbx fun p1 => ?_
 refine Qbx fun p2 => ?_
 refine Qbx fun p3 => ?_
 refine Qa ?_
 refine Qns ?_
 refine Qsr ?_
 refine Q1 (r_fa fd92_0) ?_
 refine Q1 (r_fa fd89_2) ?_
 refine Qld 1 (le_T_api_Installed_Entry.comp le_T_api_Entry_Priority) ty3 ?_
 refine Q1 (r_fa fd92_0) ?_
 refine Q1 (r_fa fd89_2) ?_
 refine Qld 0 (le_T_api_Installed_Entry.comp le_T_api_Entry_Priority) ty3 ?_
 refine Q2 r_neq ?_
 refine Qnx ?_
 refine Qcd h (fun h=>?_) fun h=>?_
 ·refine Qsr ?_
  refine Q1 (r_fa fd92_0) ?_
  refine Q1 (r_fa fd89_2) ?_
  refine Qld 1 (le_T_api_Installed_Entry.comp le_T_api_Entry_Priority) ty3 ?_
  refine Q1 (r_fa fd92_0) ?_
  refine Q1 (r_fa fd89_2) ?_
  refine Qld 0 (le_T_api_Installed_Entry.comp le_T_api_Entry_Priority) ty3 ?_
  refine Q2 r_gtr ?_
  refine Qa ?_
  refine Qnx ?_
  refine Wp.ret ?_
  refine To.ret ?_
  obtain rfl:=some_in h
  exact Qe1
 ·refine Qkn ?_
  refine Wp.seq ?_
  refine Wp.seq ?_
  obtain ⟨y1,hy1,h⟩:=Qbs h
  obtain ⟨y2,hy2,h⟩:=Qbs h
  refine Wp.draw mixed 8 [some 23, some 24, some 25, some 26, some 27, some 28, some 29, some 30] [[], [], [1], [0, 2], [], [], [5], [4, 6]] [.val _, .val _, .val _, .val _, .val _, .val _, .val _, .val _] [false, false, false, false, false, false, false, false] (by kernel_rfl) rfl rfl rfl (fun ps1 => ⟨Hl0 2 ty33, H1 (r_fa fd92_0), Hld 1 le_T_api_Installed_Entry ty89, Hcl en134 (C_ref10_Prefix hy1), Hl0 2 ty33, H1 (r_fa fd92_0), Hld 0 le_T_api_Installed_Entry ty89, Hcl en134 (C_ref10_Prefix hy2), trivial⟩) fun ps1 => ?_
  refine Qa ?_
  refine Qa ?_
  refine Qnr ?_
  refine Qm ?_
  refine Qm ?_
  refine Q2 r_neq ?_
  refine Qnx ?_
  refine Qcd h (fun h=>?_) fun h=>?_
  ·refine Qsr ?_
   refine Qm ?_
   refine Qm ?_
   refine Q2 r_gtr ?_
   refine Qa ?_
   refine Qnx ?_
   refine Wp.ret ?_
   refine To.ret ?_
   obtain rfl:=some_in h
   exact Qe1
  ·refine Qkn ?_
   refine Qsr ?_
   refine Q1 (r_fa fd92_1) ?_
   refine Qld 1 le_T_api_Installed_Number ty3 ?_
   refine Q1 (r_fa fd92_1) ?_
   refine Qld 0 le_T_api_Installed_Number ty3 ?_
   refine Q2 r_gtr ?_
   refine Qa ?_
   refine Qnx ?_
   refine Wp.ret ?_
   obtain rfl:=some_in h
   exact Qe1
end Go.Proofs.Ytodajdohokmjnaa

