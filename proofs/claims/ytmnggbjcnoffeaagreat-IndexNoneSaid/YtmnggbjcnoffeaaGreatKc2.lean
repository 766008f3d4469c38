/-
  Each function meets its functional program. Conditions: none.
-/
import Derived.Test.YtmnggbjcnoffeaaGreatKc0
import Derived.Test.YtmnggbjcnoffeaaGreatKc1
import Derived.Test.YtmnggbjcnoffeaaGreatKd
namespace Go.Proofs.YtmnggbjcnoffeaaGreat
open Go Gv
set_option linter.unusedVariables false
set_option linter.unusedSimpArgs false
set_option maxRecDepth 100000
set_option maxHeartbeats 2000000
theorem C_mcase_Codes_Schema {x0 : T_mcase_Codes} {pp0 : Nat} {r : T_api_Schema × T_mcase_Codes} (h : L_mcase_Codes_Schema x0 = some r) : MeetsO Tryz.prog 16 [VP.eq (.pointer (some ⟨pp0, 0, none⟩))] [⟨some pp0, .var (x0 : T_mcase_Codes)⟩] (δ := Unit) (fun d => VP.of (r.1)) (fun d => [⟨some pp0, .var (r.2 : T_mcase_Codes)⟩]) := by
 unfold L_mcase_Codes_Schema at h
 refine MeetsO.of Tryz.func16 rfl Tryz.ntmps16 rfl fun W A => ?_
 refine Qsr ?_
 refine Qal zr33 fun p1 => ?_
 refine Qnr ?_
 refine Qm ?_
 refine Sq.bring 1 rfl ?_
 obtain ⟨y1,hy1,h⟩:=Qbs h
 refine QcO 1 en32 (C_mcase_Codes_Next hy1) fun q1 => ?_
 refine Q2 r_add ?_
 refine Qm ?_
 refine Sq.bring 0 rfl ?_
 obtain ⟨y2,hy2,h⟩:=Qbs h
 refine QcO 1 en32 (C_mcase_Codes_Next hy2) fun q2 => ?_
 refine Q2 r_add ?_
 refine Qv (r_buildX (b := ({ (default : T_api_Schema) with f_MaxBatch := w64 (2 + y1.1), f_Budget := w64 (12 + y2.1) } : T_api_Schema)) [5, 7] zh33_5_7 rfl bu33 zr33 (.cons le_T_api_Schema_MaxBatch rfl (look_t rfl) rfl (by rfl) (.cons le_T_api_Schema_Budget rfl (look_t rfl) rfl (by rfl) (.nil)))) ?_
 refine Sq.own (α := T_api_Stage) 127 ?_
 refine Sq.own (α := T_api_Ref) 129 ?_
 refine Sq.allocX (z := (default : T_api_Schema)) [5, 7] zh33_5_7 zr33 rfl fun p2 => ?_
 refine Sq.own (α := T_api_Stage) 127 ?_
 refine Sq.own (α := T_api_Ref) 129 ?_
 refine Sq.storeW (i := 2) ty33 (look_t rfl) (look_t rfl) rfl ?_
 refine Qnr ?_
 obtain ⟨z1,hz1,h⟩:=Qbs h
 refine Qn hz1 (r_build (b := { f_ID := 1, f_Name := ByteArray.mk #[105, 110, 103, 114, 101, 115, 115], f_Bits := 16 : T_api_Field }) rfl bu119 zr119 (.cons le_T_api_Field_ID rfl (look_int 1) rfl (.cons le_T_api_Field_Name rfl (look_str (ByteArray.mk #[105, 110, 103, 114, 101, 115, 115])) rfl (.cons le_T_api_Field_Bits rfl (look_int 16) rfl (.nil))))) ?_
 obtain ⟨z2,hz2,h⟩:=Qbs h
 refine Qn hz2 (r_build (b := { f_ID := 2, f_Name := ByteArray.mk #[101, 103, 114, 101, 115, 115], f_Bits := 16 : T_api_Field }) rfl bu119 zr119 (.cons le_T_api_Field_ID rfl (look_int 2) rfl (.cons le_T_api_Field_Name rfl (look_str (ByteArray.mk #[101, 103, 114, 101, 115, 115])) rfl (.cons le_T_api_Field_Bits rfl (look_int 16) rfl (.nil))))) ?_
 obtain ⟨z3,hz3,h⟩:=Qbs h
 refine Qn hz3 (r_build (b := { f_ID := 3, f_Name := ByteArray.mk #[109, 101, 116, 97], f_Bits := 8 : T_api_Field }) rfl bu119 zr119 (.cons le_T_api_Field_ID rfl (look_int 3) rfl (.cons le_T_api_Field_Name rfl (look_str (ByteArray.mk #[109, 101, 116, 97])) rfl (.cons le_T_api_Field_Bits rfl (look_int 8) rfl (.nil))))) ?_
 refine Qbd bu119 zr119 { f_ID := 4, f_Name := ByteArray.mk #[97], f_Bits := 4 : T_api_Field } (Qfl le_T_api_Field_ID (Qfl le_T_api_Field_Name (Qfl le_T_api_Field_Bits .nil))) ?_
 refine Qbd bu119 zr119 { f_ID := 5, f_Name := ByteArray.mk #[98], f_Bits := 4 : T_api_Field } (Qfl le_T_api_Field_ID (Qfl le_T_api_Field_Name (Qfl le_T_api_Field_Bits .nil))) ?_
 obtain ⟨z4,hz4,h⟩:=Qbs h
 refine Qn hz4 (r_build (b := { f_ID := 6, f_Name := ByteArray.mk #[101], f_Bits := 8 : T_api_Field }) rfl bu119 zr119 (.cons le_T_api_Field_ID rfl (look_int 6) rfl (.cons le_T_api_Field_Name rfl (look_str (ByteArray.mk #[101])) rfl (.cons le_T_api_Field_Bits rfl (look_int 8) rfl (.nil))))) ?_
 obtain ⟨z5,hz5,h⟩:=Qbs h
 refine Qn hz5 (r_build (b := { f_ID := 7, f_Name := ByteArray.mk #[100], f_Bits := 32 : T_api_Field }) rfl bu119 zr119 (.cons le_T_api_Field_ID rfl (look_int 7) rfl (.cons le_T_api_Field_Name rfl (look_str (ByteArray.mk #[100])) rfl (.cons le_T_api_Field_Bits rfl (look_int 32) rfl (.nil))))) ?_
 obtain ⟨z6,hz6,h⟩:=Qbs h
 refine Qn hz6 (r_build (b := { f_ID := 8, f_Name := ByteArray.mk #[102], f_Bits := 12 : T_api_Field }) rfl bu119 zr119 (.cons le_T_api_Field_ID rfl (look_int 8) rfl (.cons le_T_api_Field_Name rfl (look_str (ByteArray.mk #[102])) rfl (.cons le_T_api_Field_Bits rfl (look_int 12) rfl (.nil))))) ?_
 obtain ⟨z7,hz7,h⟩:=Qbs h
 refine Qn hz7 (r_build (b := { f_ID := 9, f_Name := ByteArray.mk #[103], f_Bits := 4 : T_api_Field }) rfl bu119 zr119 (.cons le_T_api_Field_ID rfl (look_int 9) rfl (.cons le_T_api_Field_Name rfl (look_str (ByteArray.mk #[103])) rfl (.cons le_T_api_Field_Bits rfl (look_int 4) rfl (.nil))))) ?_
 obtain ⟨z8,hz8,h⟩:=Qbs h
 refine Qn hz8 (r_bsl (r := [z1, z2, z3, { f_ID := 4, f_Name := ByteArray.mk #[97], f_Bits := 4 : T_api_Field }, { f_ID := 5, f_Name := ByteArray.mk #[98], f_Bits := 4 : T_api_Field }, z4, z5, z6, z7]) Tryz.underlying24 ty119 zr119 rfl rfl (.cons (by simp) (look_t rfl) (.cons (by simp) (look_t rfl) (.cons (by simp) (look_t rfl) (.cons (by simp) (look_t rfl) (.cons (by simp) (look_t rfl) (.cons (by simp) (look_t rfl) (.cons (by simp) (look_t rfl) (.cons (by simp) (look_t rfl) (.cons (by simp) (look_t rfl) (.nil))))))))))) ?_
 refine Q1 (r_fa fd33_0) ?_
 obtain ⟨z9,hz9,h⟩:=Qbs h
 refine Sq.storeX (i := 2) ((Lens.id T_api_Schema).comp le_T_api_Schema_Fields) (v := (z8 : List T_api_Field)) (b' := (z9 : T_api_Schema)) ty24 (look_t rfl) (look_t rfl) rfl rfl (some_in hz9) (by rfl) ?_
 refine Qnr ?_
 refine Qbl ([4, 5, 6] : List Int) Tryz.underlying63 ty3 zr3 ?_
 obtain ⟨z10,hz10,h⟩:=Qbs h
 refine Qn hz10 (r_build (b := { f_ID := 1, f_Name := ByteArray.mk #[111, 110, 101], f_Fields := ([4, 5, 6] : List Int) : T_api_Header }) rfl bu121 zr121 (.cons le_T_api_Header_ID rfl (look_int 1) rfl (.cons le_T_api_Header_Name rfl (look_str (ByteArray.mk #[111, 110, 101])) rfl (.cons le_T_api_Header_Fields rfl (look_t rfl) rfl (.nil))))) ?_
 refine Qbl ([7] : List Int) Tryz.underlying63 ty3 zr3 ?_
 obtain ⟨z11,hz11,h⟩:=Qbs h
 refine Qn hz11 (r_build (b := { f_ID := 2, f_Name := ByteArray.mk #[116, 119, 111], f_Fields := ([7] : List Int) : T_api_Header }) rfl bu121 zr121 (.cons le_T_api_Header_ID rfl (look_int 2) rfl (.cons le_T_api_Header_Name rfl (look_str (ByteArray.mk #[116, 119, 111])) rfl (.cons le_T_api_Header_Fields rfl (look_t rfl) rfl (.nil))))) ?_
 refine Qbl ([8, 9] : List Int) Tryz.underlying63 ty3 zr3 ?_
 obtain ⟨z12,hz12,h⟩:=Qbs h
 refine Qn hz12 (r_build (b := { f_ID := 3, f_Name := ByteArray.mk #[116, 104, 114, 101, 101], f_Fields := ([8, 9] : List Int) : T_api_Header }) rfl bu121 zr121 (.cons le_T_api_Header_ID rfl (look_int 3) rfl (.cons le_T_api_Header_Name rfl (look_str (ByteArray.mk #[116, 104, 114, 101, 101])) rfl (.cons le_T_api_Header_Fields rfl (look_t rfl) rfl (.nil))))) ?_
 refine Qbl [z10, z11, z12] Tryz.underlying25 ty121 zr121 ?_
 refine Q1 (r_fa fd33_1) ?_
 refine Sq.storeX (i := 2) ((Lens.id T_api_Schema).comp le_T_api_Schema_Headers) (v := ([z10, z11, z12] : List T_api_Header)) (b' := (({ z9 with f_Headers := [z10, z11, z12] } : T_api_Schema) : T_api_Schema)) ty25 (look_t rfl) (look_t rfl) rfl rfl rfl (by rfl) ?_
 refine Qnr ?_
 refine Qm ?_
 refine Sq.bring 5 rfl ?_
 obtain ⟨y3,hy3,h⟩:=Qbs h
 refine QcO 1 en68 (C_mcase_Codes_states hy3) fun q3 => ?_
 refine Qm ?_
 refine Sq.bring 0 rfl ?_
 obtain ⟨y4,hy4,h⟩:=Qbs h
 refine QcO 1 en69 (C_mcase_Codes_actions hy4) fun q4 => ?_
 refine Qm ?_
 refine Sq.bring 0 rfl ?_
 obtain ⟨y5,hy5,h⟩:=Qbs h
 refine QcO 1 en70 (C_mcase_Codes_tables hy5) fun q5 => ?_
 refine Q1 (r_fa fd33_2) ?_
 obtain ⟨z13,hz13,h⟩:=Qbs h
 refine Sq.storeX (i := 3) ((Lens.id T_api_Schema).comp le_T_api_Schema_States) (v := (y3.1 : List T_api_State)) (b' := (z13 : T_api_Schema)) ty26 (look_t rfl) (look_t rfl) rfl rfl (some_in hz13) (by rfl) ?_
 refine Q1 (r_fa fd33_3) ?_
 refine Sq.storeX (i := 3) ((Lens.id T_api_Schema).comp le_T_api_Schema_Actions) (v := (y4.1 : List T_api_Action)) (b' := (({ z13 with f_Actions := y4.1 } : T_api_Schema) : T_api_Schema)) ty27 (look_t rfl) (look_t rfl) rfl rfl rfl (by rfl) ?_
 refine Q1 (r_fa fd33_4) ?_
 obtain ⟨z14,hz14,h⟩:=Qbs h
 refine Sq.storeX (i := 3) ((Lens.id T_api_Schema).comp le_T_api_Schema_Tables) (v := (y5.1 : List T_api_Table)) (b' := (z14 : T_api_Schema)) ty28 (look_t rfl) (look_t rfl) rfl rfl (some_in hz14) (by rfl) ?_
 refine Qnr ?_
 refine Qm ?_
 refine Q1 (r_fa fd33_4) ?_
 refine Qlx 3 le_T_api_Schema_Tables ty28 ?_
 refine Sq.bring 0 rfl ?_
 obtain ⟨y6,hy6,h⟩:=Qbs h
 refine QcO 1 en71 (C_mcase_Codes_roles hy6) fun q6 => ?_
 refine Q1 (r_fa fd33_6) ?_
 refine Sq.storeX (i := 3) ((Lens.id T_api_Schema).comp le_T_api_Schema_Roles) (v := (y6.1 : List T_api_Role)) (b' := (({ z14 with f_Roles := y6.1 } : T_api_Schema) : T_api_Schema)) ty30 (look_t rfl) (look_t rfl) rfl rfl rfl (by rfl) ?_
 refine Qnr ?_
 refine Qbd bu127 zr127 { f_Table := 1, f_Header := 1 : T_api_Stage } (Qfl le_T_api_Stage_Table (Qfl le_T_api_Stage_Header .nil)) ?_
 refine Qbd bu127 zr127 { f_Table := 2, f_Header := 2 : T_api_Stage } (Qfl le_T_api_Stage_Table (Qfl le_T_api_Stage_Header .nil)) ?_
 refine Qbd bu127 zr127 ({ (default : T_api_Stage) with f_Table := 3 } : T_api_Stage) (Qfl le_T_api_Stage_Table .nil) ?_
 refine Qbd bu127 zr127 { f_Table := 4, f_Header := 3 : T_api_Stage } (Qfl le_T_api_Stage_Table (Qfl le_T_api_Stage_Header .nil)) ?_
 obtain ⟨z15,hz15,h⟩:=Qbs h
 refine Sq.bslN (α := T_api_Stage) (r0 := [{ f_Table := 1, f_Header := 1 : T_api_Stage }, { f_Table := 2, f_Header := 2 : T_api_Stage }, ({ (default : T_api_Stage) with f_Table := 3 } : T_api_Stage), { f_Table := 4, f_Header := 3 : T_api_Stage }]) (r := z15) Tryz.underlying29 ty127 zr127 rfl rfl (.cons (by simp) (look_t rfl) (.cons (by simp) (look_t rfl) (.cons (by simp) (look_t rfl) (.cons (by simp) (look_t rfl) (.nil))))) (some_in hz15) rfl fun key1 => ?_
 refine Q1 (r_fa fd33_5) ?_
 refine Sq.storeH (i := 4) (γ := T_api_Stage) (b' := (({ ({ z14 with f_Roles := y6.1 } : T_api_Schema) with f_Stages := [] } : T_api_Schema) : T_api_Schema)) (os' := [(5, slv key1 z15.length 4), (7, slv none ([] : List T_api_Ref).length 0)]) ((Lens.id T_api_Schema).comp le_T_api_Schema_Stages) ty29 (look_t rfl) (look_t rfl) slv_one rfl rfl rfl rfl ?_
 refine Qns ?_
 refine Qsr ?_
 refine Qm ?_
 refine Sq.bring 1 rfl ?_
 obtain ⟨y7,hy7,h⟩:=Qbs h
 refine QcO 1 en55 (C_mcase_Codes_Bool hy7) fun q7 => ?_
 refine Qnx ?_
 obtain ⟨m1,hm1,h⟩:=Qbs h
 refine Qcm (γ:=(Option Nat × Nat)) [0, 2, 3, 51] (fun g1 => []) (fun g1 => [(1, ⟨g1.1, .row 127 (m1 : List T_api_Stage) g1.2⟩), (4, ⟨some p2, .varX (({ ({ z14 with f_Roles := y6.1 } : T_api_Schema) with f_Stages := [] } : T_api_Schema) : T_api_Schema) [(5, slv g1.1 m1.length g1.2), (7, slv none ([] : List T_api_Ref).length 0)]⟩)]) (fun g1 => ?_) (fun hm hc => ?_) fun hm hc => ?_
 ·clear hm1
  refine To.next ?_
  refine Wp.seq ?_
  refine Qsr ?_
  refine Qm ?_
  refine Sq.bring 0 rfl ?_
  obtain ⟨y8,hy8,h⟩:=Qbs h
  refine QcO 1 en55 (C_mcase_Codes_Bool hy8) fun q8 => ?_
  refine Qnx ?_
  obtain ⟨m2,hm2,h⟩:=Qbs h
  refine Qcm (γ:=(Option Nat × Nat)) [0, 2, 3, 51, 59] (fun g2 => []) (fun g2 => [(4, ⟨some p2, .varX (m2.1 : T_api_Schema) [(5, slv g1.1 m1.length g1.2), (7, slv g2.1 m2.2.length g2.2)]⟩), (5, ⟨g2.1, .row 129 (m2.2 : List T_api_Ref) g2.2⟩)]) (fun g2 => ?_) (fun hm hc => ?_) fun hm hc => ?_
  ·clear hm2
   refine To.next ?_
   refine Wp.seq ?_
   refine Qsr ?_
   refine Qm ?_
   refine Sq.bring 0 rfl ?_
   obtain ⟨y9,hy9,h⟩:=Qbs h
   refine QcO 1 en55 (C_mcase_Codes_Bool hy9) fun q9 => ?_
   refine Qm ?_
   refine Qg1 (r_fa fd33_4) ?_
   refine Qg (fun hb => r_loadX (i := 4) ((Lens.id T_api_Schema).comp le_T_api_Schema_Tables) (r := m2.1.f_Tables) ty28 (look_tc rfl hb) rfl rfl rfl (by rfl)) ?_
   obtain ⟨k1,hk1,h⟩:=Qbs h
   refine Qg (fun hb => r_ias (k := k1) Tryz.underlying28 ty65 (look_tc rfl hb) (look_int 2) (idx_some (condM_some hk1 hb))) ?_
   refine Qg (fun hb => r_fap le_T_api_Table_Keys fd65_2 (look_tc rfl hb) rfl rfl) ?_
   refine Qg1 (r_loadp ty62) ?_
   refine Qg1 (r_len Tryz.underlying62) ?_
   refine Qg2 r_eql ?_
   refine Qan ?_
   refine Qnx ?_
   obtain ⟨m3,hm3,h⟩:=Qbs h
   refine Qcm (γ:=(Option Nat × Nat)) [0, 2, 3, 51, 59, 76] (fun g3 => []) (fun g3 => [(4, ⟨some p2, .varX (m3.1 : T_api_Schema) [(5, slv g1.1 m1.length g1.2), (7, slv g3.1 m3.2.length g3.2)]⟩), (5, ⟨g3.1, .row 129 (m3.2 : List T_api_Ref) g3.2⟩)]) (fun g3 => ?_) (fun hm hc => ?_) fun hm hc => ?_
   ·clear hm3
    refine To.next ?_
    refine Wp.seq ?_
    refine Qsr ?_
    refine Qm ?_
    refine Sq.bring 0 rfl ?_
    obtain ⟨y10,hy10,h⟩:=Qbs h
    refine QcO 1 en55 (C_mcase_Codes_Bool hy10) fun q10 => ?_
    refine Qm ?_
    refine Qg1 (r_fa fd33_4) ?_
    refine Qg (fun hb => r_loadX (i := 4) ((Lens.id T_api_Schema).comp le_T_api_Schema_Tables) (r := m3.1.f_Tables) ty28 (look_tc rfl hb) rfl rfl rfl (by rfl)) ?_
    obtain ⟨k2,hk2,h⟩:=Qbs h
    refine Qg (fun hb => r_ias (k := k2) Tryz.underlying28 ty65 (look_tc rfl hb) (look_int 3) (idx_some (condM_some hk2 hb))) ?_
    refine Qg (fun hb => r_fap le_T_api_Table_Keys fd65_2 (look_tc rfl hb) rfl rfl) ?_
    refine Qg1 (r_loadp ty62) ?_
    refine Qg1 (r_len Tryz.underlying62) ?_
    refine Qg2 r_eql ?_
    refine Qan ?_
    refine Qnx ?_
    obtain ⟨m4,hm4,h⟩:=Qbs h
    refine Qcm (γ:=(Option Nat × Nat)) [0, 2, 3, 51, 59, 76, 93] (fun g4 => []) (fun g4 => [(4, ⟨some p2, .varX (m4.1 : T_api_Schema) [(5, slv g1.1 m1.length g1.2), (7, slv g4.1 m4.2.length g4.2)]⟩), (5, ⟨g4.1, .row 129 (m4.2 : List T_api_Ref) g4.2⟩)]) (fun g4 => ?_) (fun hm hc => ?_) fun hm hc => ?_
    ·clear hm4
     refine To.next ?_
     refine Qsr ?_
     refine Sq.thaw (β := T_api_Schema) (γ := T_api_Stage) (b' := (({ m4.1 with f_Stages := m1 } : T_api_Schema) : T_api_Schema)) ((Lens.id T_api_Schema).comp le_T_api_Schema_Stages) 4 1 0 rfl rfl rfl rfl rfl rfl ?_
     refine Sq.thaw (β := T_api_Schema) (γ := T_api_Ref) (b' := (({ ({ m4.1 with f_Stages := m1 } : T_api_Schema) with f_Refs := m4.2 } : T_api_Schema) : T_api_Schema)) ((Lens.id T_api_Schema).comp le_T_api_Schema_Refs) 4 5 0 rfl rfl rfl rfl rfl rfl ?_
     refine Sq.fromX 4 rfl ?_
     obtain ⟨z16,hz16,h⟩:=Qbs h
     refine Qn hz16 (r_load (i := 4) (Lens.id T_api_Schema) (r := ({ ({ m4.1 with f_Stages := m1 } : T_api_Schema) with f_Refs := m4.2 } : T_api_Schema)) ty33 (look_t rfl) rfl rfl rfl) ?_
     refine Qs0 7 ty33 ?_
     refine Qnx ?_
     refine Wp.ret ?_
     refine To.bring 0 rfl ?_
     obtain rfl:=some_in h
     exact To.endO1 () (.cons_cons _ (List.nil_sublist _)) rfl rfl (rvo_c (i := 7) ty33 rfl rfl)
    ·have h := cond_t hc hm4
     refine Wp.reg ?_
     refine Q1 (r_fa fd33_7) ?_
     refine Qv (r_loadH (i := 4) (q := 1) (β := T_api_Schema) (γ := T_api_Ref) ty31 (look_t rfl) rfl rfl) ?_
     obtain ⟨z17,hz17,h⟩:=Qbs h
     refine Qn hz17 (r_build (b := ({ (default : T_api_Ref) with f_Table := 4, f_Key := 1, f_ToTable := 1 } : T_api_Ref)) rfl bu129 zr129 (.cons le_T_api_Ref_Table rfl (look_int 4) rfl (.cons le_T_api_Ref_Key rfl (look_int 1) rfl (.cons le_T_api_Ref_ToTable rfl (look_int 1) rfl (.nil))))) ?_
     obtain ⟨z18,hz18,h⟩:=Qbs h
     refine Qn hz18 (r_build (b := ({ (default : T_api_Ref) with f_Table := 4, f_Action := 5, f_ToTable := 1 } : T_api_Ref)) rfl bu129 zr129 (.cons le_T_api_Ref_Table rfl (look_int 4) rfl (.cons le_T_api_Ref_Action rfl (look_int 5) rfl (.cons le_T_api_Ref_ToTable rfl (look_int 1) rfl (.nil))))) ?_
     refine Qbl [z17, z18] Tryz.underlying31 ty129 zr129 ?_
     obtain ⟨y11,hy11,h⟩:=Qbs h
     refine Qap 5 Tryz.underlying31 ty129 zr129 hy11 fun key2 cap1 => ?_
     refine Q1 (r_fa fd33_7) ?_
     refine Sq.storeH (i := 4) (γ := T_api_Ref) (b' := (({ m3.1 with f_Refs := [] } : T_api_Schema) : T_api_Schema)) (os' := [(5, slv g1.1 m1.length g1.2), (7, slv key2 y11.length cap1)]) ((Lens.id T_api_Schema).comp le_T_api_Schema_Refs) ty31 (look_t rfl) (look_t rfl) slv_one rfl rfl rfl rfl ?_
     refine Sq.nil ?_
     obtain rfl:=some_in h
     exact Qmt 0 (hm (key2, cap1))
    ·have h := cond_f hc hm4
     refine Wp.skip ?_
     obtain rfl:=some_in h
     exact Qmt 0 (hm (g3.1, g3.2))
   ·have h := cond_t hc hm3
    refine Wp.reg ?_
    refine Q1 (r_fa fd33_7) ?_
    refine Qv (r_loadH (i := 4) (q := 1) (β := T_api_Schema) (γ := T_api_Ref) ty31 (look_t rfl) rfl rfl) ?_
    obtain ⟨z19,hz19,h⟩:=Qbs h
    refine Qn hz19 (r_build (b := ({ (default : T_api_Ref) with f_Table := 3, f_Key := 2, f_ToTable := 1 } : T_api_Ref)) rfl bu129 zr129 (.cons le_T_api_Ref_Table rfl (look_int 3) rfl (.cons le_T_api_Ref_Key rfl (look_int 2) rfl (.cons le_T_api_Ref_ToTable rfl (look_int 1) rfl (.nil))))) ?_
    refine Qbl [z19] Tryz.underlying31 ty129 zr129 ?_
    obtain ⟨y12,hy12,h⟩:=Qbs h
    refine Qap 5 Tryz.underlying31 ty129 zr129 hy12 fun key3 cap2 => ?_
    refine Q1 (r_fa fd33_7) ?_
    refine Sq.storeH (i := 4) (γ := T_api_Ref) (b' := (({ m2.1 with f_Refs := [] } : T_api_Schema) : T_api_Schema)) (os' := [(5, slv g1.1 m1.length g1.2), (7, slv key3 y12.length cap2)]) ((Lens.id T_api_Schema).comp le_T_api_Schema_Refs) ty31 (look_t rfl) (look_t rfl) slv_one rfl rfl rfl rfl ?_
    refine Sq.nil ?_
    obtain rfl:=some_in h
    exact Qmt 0 (hm (key3, cap2))
   ·have h := cond_f hc hm3
    refine Wp.skip ?_
    obtain rfl:=some_in h
    exact Qmt 0 (hm (g2.1, g2.2))
  ·have h := cond_t hc hm2
   refine Wp.reg ?_
   refine Q1 (r_fa fd33_7) ?_
   refine Qv (r_loadH (i := 4) (q := 1) (β := T_api_Schema) (γ := T_api_Ref) ty31 (look_t rfl) rfl rfl) ?_
   obtain ⟨z20,hz20,h⟩:=Qbs h
   refine Qn hz20 (r_build (b := ({ (default : T_api_Ref) with f_Table := 2, f_Action := 4, f_ToTable := 1 } : T_api_Ref)) rfl bu129 zr129 (.cons le_T_api_Ref_Table rfl (look_int 2) rfl (.cons le_T_api_Ref_Action rfl (look_int 4) rfl (.cons le_T_api_Ref_ToTable rfl (look_int 1) rfl (.nil))))) ?_
   refine Qbl [z20] Tryz.underlying31 ty129 zr129 ?_
   obtain ⟨y13,hy13,h⟩:=Qbs h
   refine Qap 5 Tryz.underlying31 ty129 zr129 hy13 fun key4 cap3 => ?_
   refine Q1 (r_fa fd33_7) ?_
   refine Sq.storeH (i := 4) (γ := T_api_Ref) (b' := (({ ({ ({ z14 with f_Roles := y6.1 } : T_api_Schema) with f_Stages := [] } : T_api_Schema) with f_Refs := [] } : T_api_Schema) : T_api_Schema)) (os' := [(5, slv g1.1 m1.length g1.2), (7, slv key4 y13.length cap3)]) ((Lens.id T_api_Schema).comp le_T_api_Schema_Refs) ty31 (look_t rfl) (look_t rfl) slv_one rfl rfl rfl rfl ?_
   refine Sq.nil ?_
   obtain rfl:=some_in h
   exact Qmt 0 (hm (key4, cap3))
  ·have h := cond_f hc hm2
   refine Wp.skip ?_
   obtain rfl:=some_in h
   exact Qmt 0 (hm (none, 0))
 ·have h := cond_t hc hm1
  refine Wp.reg ?_
  refine Q1 (r_fa fd33_5) ?_
  refine Qv (r_loadH (i := 4) (q := 0) (β := T_api_Schema) (γ := T_api_Stage) ty29 (look_t rfl) rfl rfl) ?_
  refine Qbd bu127 zr127 ({ (default : T_api_Stage) with f_Table := 1 } : T_api_Stage) (Qfl le_T_api_Stage_Table .nil) ?_
  refine Qbl [({ (default : T_api_Stage) with f_Table := 1 } : T_api_Stage)] Tryz.underlying29 ty127 zr127 ?_
  obtain ⟨y14,hy14,h⟩:=Qbs h
  refine Qap 1 Tryz.underlying29 ty127 zr127 hy14 fun key5 cap4 => ?_
  refine Q1 (r_fa fd33_5) ?_
  refine Sq.storeH (i := 4) (γ := T_api_Stage) (b' := (({ ({ z14 with f_Roles := y6.1 } : T_api_Schema) with f_Stages := [] } : T_api_Schema) : T_api_Schema)) (os' := [(5, slv key5 y14.length cap4), (7, slv none ([] : List T_api_Ref).length 0)]) ((Lens.id T_api_Schema).comp le_T_api_Schema_Stages) ty29 (look_t rfl) (look_t rfl) slv_one rfl rfl rfl rfl ?_
  refine Sq.nil ?_
  obtain rfl:=some_in h
  exact Qmt 0 (hm (key5, cap4))
 ·have h := cond_f hc hm1
  refine Wp.skip ?_
  obtain rfl:=some_in h
  exact Qmt 0 (hm (key1, 4))
end Go.Proofs.YtmnggbjcnoffeaaGreat

namespace Go.Proofs.YtmnggbjcnoffeaaGreat
open Go Gv
set_option linter.unusedVariables false
set_option linter.unusedSimpArgs false
set_option maxRecDepth 100000
set_option maxHeartbeats 2000000
end Go.Proofs.YtmnggbjcnoffeaaGreat

namespace Go.Proofs.YtmnggbjcnoffeaaGreat
open Go Gv
set_option linter.unusedVariables false
set_option linter.unusedSimpArgs false
set_option maxRecDepth 100000
set_option maxHeartbeats 2000000
end Go.Proofs.YtmnggbjcnoffeaaGreat

namespace Go.Proofs.YtmnggbjcnoffeaaGreat
open Go Gv
set_option linter.unusedVariables false
set_option linter.unusedSimpArgs false
set_option maxRecDepth 100000
set_option maxHeartbeats 2000000
end Go.Proofs.YtmnggbjcnoffeaaGreat

namespace Go.Proofs.YtmnggbjcnoffeaaGreat
open Go Gv
set_option linter.unusedVariables false
set_option linter.unusedSimpArgs false
set_option maxRecDepth 100000
set_option maxHeartbeats 2000000
end Go.Proofs.YtmnggbjcnoffeaaGreat

namespace Go.Proofs.YtmnggbjcnoffeaaGreat
open Go Gv
set_option linter.unusedVariables false
set_option linter.unusedSimpArgs false
set_option maxRecDepth 100000
set_option maxHeartbeats 2000000
theorem C_trie_New {hp : Pool Cell} {x0 : Int}  {Q : Ref × (Pool Cell) → Prop} (h : L_trie_New hp x0 Q) : MeetsO Tryz.prog 243 [VP.of (x0)] ([] ++ Ents hp) (δ := {r : Ref × (Pool Cell) // Q r} × Unit) (fun d => VP.of (d.1.1.1)) (fun d => [] ++ Ents d.1.1.2) := by
 unfold L_trie_New at h
 refine MeetsO.of Tryz.func243 rfl Tryz.ntmps243 rfl fun W A => ?_
 refine Qsr ?_
 refine Qv (r_asg (look_nilref)) ?_
 refine Qnr ?_
 refine Qm ?_
 refine Q2 r_max ?_
 refine Q2 r_min ?_
 obtain ⟨z1, hz1, h⟩ := Wm.of_bind h
 refine Qn hz1 (r_build (b := ({ (default : T_trie_Trie) with f_bits := min (max 1 x0) 128 } : T_trie_Trie)) rfl bu337 zr337 (.cons le_T_trie_Trie_bits rfl (look_t rfl) rfl (.nil))) ?_
 refine Sq.boxQ 0 rfl (Cell.c337 z1) (fun _ => rfl) (look_t rfl) rfl fun a1 ha1 => ?_
 replace h := Wm.mk_bind h a1 ha1
 refine Qa ?_
 refine Qnx ?_
 refine Wp.ret ?_
 exact To.endO1 (⟨⟨((some a1.1 : Ref), a1.2), h⟩, ()⟩ : {r // _} × _) (.refl _) rfl rfl (rvo_t rfl)
theorem C_slices_BinarySearchFunc_api_Installed {x0 : List T_api_Installed} {x1 : T_api_Installed} {x2 : T_api_Installed → T_api_Installed → Option Int}  {r : Int × Bool} (h : L_slices_BinarySearchFunc_api_Installed x0 x1 x2 = some r) : Meets Tryz.prog 274 [VP.of (x0), VP.of (x1), VP.fn2 Tryz.prog x2] (VP.tup [VP.of (r.1), VP.of (r.2)]) := by
 unfold L_slices_BinarySearchFunc_api_Installed at h
 refine Meets.of Tryz.func274 rfl Tryz.ntmps274 rfl fun W A => ?_
 refine Qsr ?_
 refine Qbx fun p1 => ?_
 refine Qa ?_
 refine Qa ?_
 refine Qnr ?_
 refine Qm ?_
 refine Q1 (r_len Tryz.underlying38) ?_
 refine Qa ?_
 refine Qnr ?_
 refine Qm ?_
 refine Qa ?_
 refine Qa ?_
 refine Qns ?_
 refine Wp.block ?_
 obtain ⟨e1,hl,h⟩:=Qbs h
 refine Qlp (γ:=Unit) (δ:=Unit) hl [0, 1, 2, 4, 6, 7, 8] (fun s1 g1 => [(9, VP.of (s1.1)), (10, VP.of (s1.2))]) (fun s1 g1 => []) (fun q1 => Exit.exit 0) (fun q1 g1 => [(9, VP.of (q1.1)), (10, VP.of (q1.2.1)), (17, VP.of (q1.2.2))]) (fun q1 g1 => []) () (fun s1 r h g1 => ?_) fun g1 => ?_
 ·clear hl
  refine Wp.seq ?_
  refine Qsr ?_
  refine Qm ?_
  refine Qm ?_
  refine Q2 r_lss ?_
  refine Qnx ?_
  refine Qcd h (fun h=>?_) fun h=>?_
  ·refine Qkn ?_
   refine Wp.block ?_
   refine Qsr ?_
   refine Qm ?_
   refine Qm ?_
   refine Q2 r_add ?_
   refine Q1 (r_ci64 Tryz.underlying3 Tryz.underlying130) ?_
   refine Qv (r_shr64 (look_t rfl) (look_u64 1 rfl)) ?_
   refine Q1 (r_c64i Tryz.underlying130 Tryz.underlying3) ?_
   refine Qa ?_
   refine Qns ?_
   obtain ⟨k1,hk1,h⟩:=Qbs h
   obtain ⟨y1,hy1,h⟩:=Qbs h
   refine Wp.draw mixed 8 [some 24, some 25, some 26, some 27, some 28, some 29, some 30, some 31] [[], [], [], [1, 2], [3], [], [0, 4, 5], [6]] [.val _, .val _, .val _, .val _, .val _, .val _, .val _, .val _] [false, false, false, false, false, false, false, false] (by kernel_rfl) rfl rfl rfl (fun ps1 => ⟨Hm, Hm, Hm, Hix hk1 Tryz.underlying38 ty52, H1 (r_loadp ty52), Hl0 0 ty52, Hv fun L' hL => r_callF2 (look_t rfl) (look_t rfl) (look_t rfl) hy1, H2 r_lss, trivial⟩) fun ps1 => ?_
   refine Qnx ?_
   obtain ⟨m1,hm1,h⟩:=Qbs h
   refine Qcm (γ:=Unit) [0, 1, 2, 4, 6, 7, 8, 11, 17, 31] (fun g2 => [(9, VP.of (m1.1)), (10, VP.of (m1.2))]) (fun g2 => []) (fun g2 => ?_) (fun hm hc => ?_) fun hm hc => ?_
   ·clear hm1
    refine To.bnorm ?_
    obtain rfl:=some_in h
    exact Qrd () 0
   ·have h := cond_t hc hm1
    refine Wp.reg ?_
    refine Qm ?_
    obtain ⟨z1,hz1,h⟩:=Qbs h
    refine Qn hz1 (r_add (look_t rfl) (look_int 1)) ?_
    refine Qa ?_
    refine Sq.nil ?_
    obtain rfl:=some_in h
    exact Qmt 0 (hm ())
   ·have h := cond_f hc hm1
    refine Wp.reg ?_
    refine Qm ?_
    refine Qa ?_
    refine Sq.nil ?_
    obtain rfl:=some_in h
    exact Qmt 0 (hm ())
  ·refine Wp.exit ?_
   refine To.exit ?_
   obtain rfl:=some_in h
   exact Qlv () 0
 ·clear hl
  refine To.bexit ?_
  refine To.next ?_
  refine Wp.seq ?_
  refine Qwl [0, 1, 2, 4, 7, 8, 9, 10, 17] ?_
  obtain ⟨k2,hk2,h⟩:=Qbs h
  obtain ⟨y2,hy2,h⟩:=Qbs h
  refine Wp.draw mixed 15 [some 35, some 36, some 37, some 38, some 39, some 40, some 41, some 42, some 43, some 44, some 45, some 46, some 47, some 48, some 6] [[], [], [], [1, 2], [3], [4], [4], [4], [4, 6, 7], [4, 8], [4], [4, 5, 9, 10], [4, 11], [4, 12], [0]] [.val _, .val _, .val _, .val _, .val _, .val _, .val _, .val _, .val _, .val _, .val _, .val _, .val _, .val _, .val _] [false, false, false, false, false, false, false, false, false, false, false, false, false, false, false] (by kernel_rfl) rfl rfl rfl (fun ps2 => ⟨Hm, Hm, Hm, H2 r_lss, Hm, Hg fun L' hL => fun hb => r_move (look_t rfl), Hg fun L' hL => fun hb => r_move (look_t rfl), Hg fun L' hL => fun hb => r_move (look_t rfl), Hg fun L' hL => fun hb => r_ias (k := k2) Tryz.underlying38 ty52 (look_tc rfl hb) (look_tc rfl hb) (idx_some (condM_some hk2 hb)), Hg fun L' hL => fun hb => r_loadp ty52 (look_tc rfl hb), Hg fun L' hL => fun hb => r_load (i := 0) (Lens.id T_api_Installed) (r := x1) ty52 (look_t rfl) (hL _ _ rfl rfl) rfl rfl, Hg fun L' hL => fun hb => r_callF2 (look_tc rfl hb) (look_tc rfl hb) (look_tc rfl hb) (condM_some hy2 hb), Hg fun L' hL => fun hb => r_eql (look_tc rfl hb) (look_int 0), Hv fun L' hL => r_and (look_t rfl) (look_t rfl) (fun h => h), Ha, trivial⟩) fun ps2 => ?_
  refine Qa ?_
  refine Qnx ?_
  refine Wp.ret ?_
  obtain rfl:=some_in h
  exact Qe2
theorem C_cmp_isNaN_int {x0 : Int}  {r : Bool} (h : L_cmp_isNaN_int x0 = some r) : Meets Tryz.prog 126 [VP.of (x0)] (VP.of (r)) := by
 unfold L_cmp_isNaN_int at h
 refine Meets.of Tryz.func126 rfl Tryz.ntmps126 rfl fun W A => ?_
 refine Qsr ?_
 refine Qa ?_
 refine Qnr ?_
 refine Qm ?_
 refine Qm ?_
 refine Q2 r_neq ?_
 refine Qa ?_
 refine Qnx ?_
 refine Wp.ret ?_
 obtain rfl:=some_in h
 exact Qe1
theorem C_slices_IndexFunc_api_Key {x0 : List T_api_Key} {x1 : T_api_Key → Option Bool}  {r : Int} (h : L_slices_IndexFunc_api_Key x0 x1 = some r) : Meets Tryz.prog 146 [VP.of (x0), VP.fn1 Tryz.prog x1] (VP.of (r)) := by
 unfold L_slices_IndexFunc_api_Key at h
 refine Meets.of Tryz.func146 rfl Tryz.ntmps146 rfl fun W A => ?_
 refine Qsr ?_
 refine Qa ?_
 refine Qns ?_
 refine Qsr ?_
 refine Qm ?_
 refine Q1 (r_len Tryz.underlying62) ?_
 refine Qm ?_
 refine Qnx ?_
 refine Wp.block ?_
 obtain ⟨e1,hl,h⟩:=Qbs h
 refine Qlp (γ:=Unit) (δ:=Unit) hl [0, 1, 7] (fun s1 g1 => [(4, VP.of (0 : Int)), (8, VP.of (s1))]) (fun s1 g1 => []) (fun q1 => Sum.elim (fun q1 => Exit.exit 0) (fun q1 => Exit.ret) q1) (fun q1 g1 => Sum.elim (fun q1 => [(4, VP.of (0 : Int)), (8, VP.of (q1.1)), (9, VP.of (q1.2))]) (fun q1 => [(4, VP.of (q1.1)), (5, VP.of (q1.2.1)), (8, VP.of (q1.2.2.1)), (9, VP.of (q1.2.2.2.1)), (16, VP.of (q1.2.2.2.2))]) q1) (fun q1 g1 => Sum.elim (fun q1 => []) (fun q1 => []) q1) () (fun s1 r h g1 => ?_) fun g1 => ?_
 ·clear hl
  refine Qsr ?_
  refine Q2 r_lss ?_
  refine Qns ?_
  refine Qcd h (fun h=>?_) fun h=>?_
  ·refine Qkn ?_
   refine Wp.seq ?_
   refine Wp.block ?_
   refine Qsr ?_
   refine Qm ?_
   refine Qa ?_
   refine Qnr ?_
   refine Qm ?_
   refine Qm ?_
   refine Qm ?_
   obtain ⟨k1,hk1,h⟩:=Qbs h
   refine Qix hk1 Tryz.underlying62 ty86 ?_
   refine Q1 (r_loadp ty86) ?_
   obtain ⟨y1,hy1,h⟩:=Qbs h
   refine Qv (r_callF1 (look_t rfl) (look_t rfl) hy1) ?_
   refine Qnx ?_
   refine Qcd h (fun h=>?_) fun h=>?_
   ·refine Qsr ?_
    refine Qm ?_
    refine Qa ?_
    refine Qnx ?_
    refine Wp.ret ?_
    refine To.bret ?_
    refine To.ret ?_
    obtain rfl:=some_in h
    exact Qlv () 0
   ·refine Wp.skip ?_
    refine To.bnorm ?_
    refine To.next ?_
    refine Wp.reg ?_
    refine Q2 r_add ?_
    refine Qm ?_
    refine Sq.nil ?_
    obtain rfl:=some_in h
    exact Qrd () 0
  ·refine Wp.exit ?_
   refine To.exit ?_
   obtain rfl:=some_in h
   exact Qlv () 0
 ·clear hl
  rcases e1 with e1 | e1
  ·simp only [Sum.elim_inl] at h
   refine To.bexit ?_
   refine To.next ?_
   refine Qsr ?_
   refine Qa ?_
   refine Qnx ?_
   refine Wp.ret ?_
   obtain rfl:=some_in h
   exact Qe1
  ·simp only [Sum.elim_inr] at h
   refine To.bret ?_
   refine To.ret ?_
   obtain rfl:=some_in h
   exact Qe1
theorem C_entry_Prefix_fn1 {x0 : T_api_Key}  {r : Bool} (h : L_entry_Prefix_fn1 x0 = some r) : Meets Tryz.prog 207 [VP.of (x0)] (VP.of (r)) := by
 unfold L_entry_Prefix_fn1 at h
 refine Meets.of Tryz.func207 rfl Tryz.ntmps207 rfl fun W A => ?_
 refine Qsr ?_
 refine Qbx fun p1 => ?_
 refine Qa ?_
 refine Qnr ?_
 refine Q1 (r_fa fd86_2) ?_
 refine Qld 0 le_T_api_Key_Kind ty3 ?_
 refine Q2 r_eql ?_
 refine Qa ?_
 refine Qnx ?_
 refine Wp.ret ?_
 obtain rfl:=some_in h
 exact Qe1
theorem C_entry_first {x0 : List Int}  {r : Int} (h : L_entry_first x0 = some r) : Meets Tryz.prog 133 [VP.of (x0)] (VP.of (r)) := by
 unfold L_entry_first at h
 refine Meets.of Tryz.func133 rfl Tryz.ntmps133 rfl fun W A => ?_
 refine Qsr ?_
 refine Qa ?_
 refine Qns ?_
 refine Qsr ?_
 refine Qm ?_
 refine Q1 (r_len Tryz.underlying63) ?_
 refine Qm ?_
 refine Qnx ?_
 refine Wp.block ?_
 obtain ⟨e1,hl,h⟩:=Qbs h
 refine Qlp (γ:=Unit) (δ:=Unit) hl [0, 5, 6] (fun s1 g1 => [(2, VP.of (0 : Int)), (7, VP.of (s1))]) (fun s1 g1 => []) (fun q1 => Sum.elim (fun q1 => Exit.exit 0) (fun q1 => Exit.ret) q1) (fun q1 g1 => Sum.elim (fun q1 => [(2, VP.of (0 : Int)), (7, VP.of (q1.1)), (8, VP.of (q1.2))]) (fun q1 => [(2, VP.of (q1.1)), (4, VP.of (q1.2.1)), (7, VP.of (q1.2.2.1)), (8, VP.of (q1.2.2.2.1)), (12, VP.of (q1.2.2.2.2))]) q1) (fun q1 g1 => Sum.elim (fun q1 => []) (fun q1 => []) q1) () (fun s1 r h g1 => ?_) fun g1 => ?_
 ·clear hl
  refine Qsr ?_
  refine Q2 r_lss ?_
  refine Qns ?_
  refine Qcd h (fun h=>?_) fun h=>?_
  ·refine Qkn ?_
   refine Wp.seq ?_
   refine Wp.block ?_
   refine Qsr ?_
   obtain ⟨k1,hk1,h⟩:=Qbs h
   refine Qix hk1 Tryz.underlying63 ty3 ?_
   refine Q1 (r_loadp ty3) ?_
   refine Qa ?_
   refine Qnr ?_
   refine Qm ?_
   refine Q2 r_neq ?_
   refine Qnx ?_
   refine Qcd h (fun h=>?_) fun h=>?_
   ·refine Qsr ?_
    refine Qm ?_
    refine Qa ?_
    refine Qnx ?_
    refine Wp.ret ?_
    refine To.bret ?_
    refine To.ret ?_
    obtain rfl:=some_in h
    exact Qlv () 0
   ·refine Wp.skip ?_
    refine To.bnorm ?_
    refine To.next ?_
    refine Wp.reg ?_
    refine Q2 r_add ?_
    refine Qm ?_
    refine Sq.nil ?_
    obtain rfl:=some_in h
    exact Qrd () 0
  ·refine Wp.exit ?_
   refine To.exit ?_
   obtain rfl:=some_in h
   exact Qlv () 0
 ·clear hl
  rcases e1 with e1 | e1
  ·simp only [Sum.elim_inl] at h
   refine To.bexit ?_
   refine To.next ?_
   refine Qsr ?_
   refine Qa ?_
   refine Qnx ?_
   refine Wp.ret ?_
   obtain rfl:=some_in h
   exact Qe1
  ·simp only [Sum.elim_inr] at h
   refine To.bret ?_
   refine To.ret ?_
   obtain rfl:=some_in h
   exact Qe1
end Go.Proofs.YtmnggbjcnoffeaaGreat

namespace Go.Proofs.YtmnggbjcnoffeaaGreat
open Go Gv
set_option linter.unusedVariables false
set_option linter.unusedSimpArgs false
set_option maxRecDepth 100000
set_option maxHeartbeats 2000000
theorem C_slices_IndexFunc_api_Installed {x0 : List T_api_Installed} {x1 : T_api_Installed → Option Bool}  {r : Int} (h : L_slices_IndexFunc_api_Installed x0 x1 = some r) : Meets Tryz.prog 110 [VP.of (x0), VP.fn1 Tryz.prog x1] (VP.of (r)) := by
 unfold L_slices_IndexFunc_api_Installed at h
 refine Meets.of Tryz.func110 rfl Tryz.ntmps110 rfl fun W A => ?_
 refine Qsr ?_
 refine Qa ?_
 refine Qns ?_
 refine Qsr ?_
 refine Qm ?_
 refine Q1 (r_len Tryz.underlying38) ?_
 refine Qm ?_
 refine Qnx ?_
 refine Wp.block ?_
 obtain ⟨e1,hl,h⟩:=Qbs h
 refine Qlp (γ:=Unit) (δ:=Unit) hl [0, 1, 7] (fun s1 g1 => [(4, VP.of (0 : Int)), (8, VP.of (s1))]) (fun s1 g1 => []) (fun q1 => Sum.elim (fun q1 => Exit.exit 0) (fun q1 => Exit.ret) q1) (fun q1 g1 => Sum.elim (fun q1 => [(4, VP.of (0 : Int)), (8, VP.of (q1.1)), (9, VP.of (q1.2))]) (fun q1 => [(4, VP.of (q1.1)), (5, VP.of (q1.2.1)), (8, VP.of (q1.2.2.1)), (9, VP.of (q1.2.2.2.1)), (16, VP.of (q1.2.2.2.2))]) q1) (fun q1 g1 => Sum.elim (fun q1 => []) (fun q1 => []) q1) () (fun s1 r h g1 => ?_) fun g1 => ?_
 ·clear hl
  refine Qsr ?_
  refine Q2 r_lss ?_
  refine Qns ?_
  refine Qcd h (fun h=>?_) fun h=>?_
  ·refine Qkn ?_
   refine Wp.seq ?_
   refine Wp.block ?_
   refine Qsr ?_
   refine Qm ?_
   refine Qa ?_
   refine Qnr ?_
   refine Qm ?_
   refine Qm ?_
   refine Qm ?_
   obtain ⟨k1,hk1,h⟩:=Qbs h
   refine Qix hk1 Tryz.underlying38 ty52 ?_
   refine Q1 (r_loadp ty52) ?_
   obtain ⟨y1,hy1,h⟩:=Qbs h
   refine Qv (r_callF1 (look_t rfl) (look_t rfl) hy1) ?_
   refine Qnx ?_
   refine Qcd h (fun h=>?_) fun h=>?_
   ·refine Qsr ?_
    refine Qm ?_
    refine Qa ?_
    refine Qnx ?_
    refine Wp.ret ?_
    refine To.bret ?_
    refine To.ret ?_
    obtain rfl:=some_in h
    exact Qlv () 0
   ·refine Wp.skip ?_
    refine To.bnorm ?_
    refine To.next ?_
    refine Wp.reg ?_
    refine Q2 r_add ?_
    refine Qm ?_
    refine Sq.nil ?_
    obtain rfl:=some_in h
    exact Qrd () 0
  ·refine Wp.exit ?_
   refine To.exit ?_
   obtain rfl:=some_in h
   exact Qlv () 0
 ·clear hl
  rcases e1 with e1 | e1
  ·simp only [Sum.elim_inl] at h
   refine To.bexit ?_
   refine To.next ?_
   refine Qsr ?_
   refine Qa ?_
   refine Qnx ?_
   refine Wp.ret ?_
   obtain rfl:=some_in h
   exact Qe1
  ·simp only [Sum.elim_inr] at h
   refine To.bret ?_
   refine To.ret ?_
   obtain rfl:=some_in h
   exact Qe1
theorem Cop0_slices_Delete_api_Installed {x0 : List T_api_Installed} {x1 x2 : Int} {key00 : Option Nat} {cap00 : Nat} {r : List T_api_Installed} (h : Lp0_slices_Delete_api_Installed x0 x1 x2 = some r) : MeetsO Tryz.prog 276 [VP.eq (slv key00 x0.length cap00), VP.of x1, VP.of x2] [⟨key00, .row 52 x0 cap00⟩] (δ := (Option Nat × Nat)) (fun d => VP.eq (slv d.1 r.length d.2)) (fun d => [⟨d.1, .row 52 r d.2⟩]) := by
  unfold Lp0_slices_Delete_api_Installed at h
  obtain ⟨m, n, rfl, rfl, hmn, hn, rfl⟩ := delM_some h
  refine MeetsO.of Tryz.func276 rfl Tryz.ntmps276 rfl fun W A => ?_
  refine Wp.seq ?_
  refine Wp.reg ?_
  refine Sq.v (r_asg look_own) rfl rfl rfl ?_
  refine Sq.nil ?_
  refine To.next ?_
  refine Wp.seq ?_
  refine Wp.reg ?_
  refine Sq.v (r_move (look_t rfl)) rfl rfl rfl ?_
  refine Sq.v (r_move (look_t rfl)) rfl rfl rfl ?_
  refine Sq.v (r_move (look_t rfl)) rfl rfl rfl ?_
  refine Sq.v (r_move (look_t rfl)) rfl rfl rfl ?_
  refine Sq.v (r_lenO (i := 0) (xs := x0) Tryz.underlying38 (look_t rfl) rfl rfl) rfl rfl rfl ?_
  refine Sq.v (r_slice3 (i := 0) (xs := x0) Tryz.underlying38 ty52 (look_t rfl) rfl (look_t rfl) (look_t rfl) (look_t rfl) ⟨hmn, hn, Nat.le_refl _⟩) rfl rfl rfl ?_
  refine Sq.nil ?_
  refine To.next ?_
  refine Wp.seq ?_
  refine Wp.seq ?_
  refine Wp.reg ?_
  refine Sq.v (r_move (look_t rfl)) rfl rfl rfl ?_
  refine Sq.v (r_move (look_t rfl)) rfl rfl rfl ?_
  refine Sq.v (r_eql (look_t rfl) (look_t rfl)) rfl rfl rfl ?_
  refine Sq.nil ?_
  refine To.next ?_
  refine Wp.cond (look_t rfl) (fun hc => ?_) (fun hc => ?_)
  · have hmn' : m = n := by simp only [beq_iff_eq] at hc; omega
    subst hmn'
    rw [List.take_append_drop]
    refine Wp.seq ?_
    refine Wp.reg ?_
    refine Sq.v (r_move (look_t rfl)) rfl rfl rfl ?_
    refine Sq.v (r_asg (look_t rfl)) rfl rfl rfl ?_
    refine Sq.nil ?_
    refine To.next ?_
    refine Wp.ret ?_
    exact To.endO1 (key00, cap00) (.cons_cons _ (List.nil_sublist _)) rfl rfl (rvo_t rfl)
  have hlt : m < n := by simp only [beq_eq_false_iff_ne] at hc; omega
  refine Wp.skip ?_
  refine To.next ?_
  refine Wp.some (i := 0) (xs := x0) rfl (by omega) fun p hp hcap hcm => ?_
  subst hp
  refine Wp.seq ?_
  refine Wp.reg ?_
  refine Sq.v (r_move (look_t rfl)) rfl rfl rfl ?_
  refine Sq.v (r_lenO (i := 0) (xs := x0) Tryz.underlying38 (look_t rfl) rfl rfl) rfl rfl rfl ?_
  refine Sq.v (r_asg (look_t rfl)) rfl rfl rfl ?_
  refine Sq.nil ?_
  refine To.next ?_
  have hlen : (x0.take m ++ x0.drop n ++ x0.drop (m + (x0.length - n))).length = x0.length := by simp only [List.length_append, List.length_take, List.length_drop]; omega
  have hlr : (x0.take m ++ x0.drop n).length = m + (x0.length - n) := by simp only [List.length_append, List.length_take, List.length_drop]; omega
  refine Wp.seq ?_
  refine Wp.le (E' := [(0, VP.eq (slv (some p) x0.length cap00)), (1, VP.of (m : Int)), (2, VP.of (n : Int)), (7, VP.of (x0.length : Int))]) (.same rfl (.same rfl (.same rfl (.same rfl .nil)))) ?_
  refine Wp.drawD mixed (⟨some 20, [], [], [], fun _ => VP.eq (slv (some p) x0.length cap00), fun _ _ => ⟨none, .dead⟩⟩ :: ⟨some 21, [], [], [], fun _ => VP.of (m : Int), fun _ _ => ⟨none, .dead⟩⟩ :: ⟨some 22, (0 :: 1 :: []), (0 :: []), [], fun _ => VP.eq (vslv (some p) 0 (m - 0) cap00 (Rp.size T_api_Installed)), fun _ _ => ⟨none, .dead⟩⟩ :: ⟨some 23, [], [], [], fun _ => VP.eq (slv (some p) x0.length cap00), fun _ _ => ⟨none, .dead⟩⟩ :: ⟨some 24, [], [], [], fun _ => VP.of (n : Int), fun _ _ => ⟨none, .dead⟩⟩ :: ⟨some 25, (3 :: 4 :: []), (0 :: []), [], fun _ => VP.eq (vslv (some p) n (x0.length - n) cap00 (Rp.size T_api_Installed)), fun _ _ => ⟨none, .dead⟩⟩ :: ⟨some 26, (0 :: 1 :: 2 :: 3 :: 4 :: 5 :: []), (0 :: []), (0 :: []), fun _ => VP.eq (slv (some p) (m + (x0.length - n)) cap00), fun _ _ => ⟨some p, .row 52 (x0.take m ++ x0.drop n ++ x0.drop (m + (x0.length - n))) cap00⟩⟩ :: ⟨some 0, (0 :: 1 :: 2 :: 3 :: 4 :: 5 :: 6 :: []), [], [], fun _ => VP.eq (slv (some p) (m + (x0.length - n)) cap00), fun _ _ => ⟨none, .dead⟩⟩ :: []) _ (0 :: 1 :: 2 :: 7 :: []) rfl rfl (by kernel_rfl) ⟨?_, ?_, ?_, ?_, ?_, ?_, ?_, ?_, trivial⟩ fun hd => ?_
  · exact hd_v rfl rfl rfl fun hd E' L' hE hL => r_move (look_t (hE _ _ rfl))
  · exact hd_v rfl rfl rfl fun hd E' L' hE hL => r_move (look_t (hE _ _ rfl))
  · exact hd_v rfl rfl rfl fun hd E' L' hE hL => r_sliceO (i := 0) (xs := x0) Tryz.underlying38 ty52 (look_t (hE _ _ rfl)) (hL 0 _ rfl rfl) .none (.some (look_t (hE _ _ rfl))) rfl rfl ⟨Nat.zero_le _, by omega⟩
  · exact hd_v rfl rfl rfl fun hd E' L' hE hL => r_move (look_t (hE _ _ rfl))
  · exact hd_v rfl rfl rfl fun hd E' L' hE hL => r_move (look_t (hE _ _ rfl))
  · exact hd_v rfl rfl rfl fun hd E' L' hE hL => r_sliceO (i := 0) (xs := x0) Tryz.underlying38 ty52 (look_t (hE _ _ rfl)) (hL 0 _ rfl rfl) (.some (look_t (hE _ _ rfl))) .none rfl rfl ⟨hn, Nat.le_refl _⟩
  · intro hd E' L' hE hL
    have h0 := hL 0 _ rfl rfl
    refine Sq.appDel (i := 0) (m := m) (n := n) (xs := x0) Tryz.underlying38 ty52 (look_t (hE _ _ rfl)) (look_t (hE _ _ rfl)) h0 hlt hn rfl ?_
    refine Sq.nil ?_
    exact To.fin (gm []) rfl rfl
  · exact hd_v rfl rfl rfl fun hd E' L' hE hL => r_asg (look_t (hE _ _ rfl))
  refine To.next ?_
  refine Wp.seq ?_
  refine Wp.reg ?_
  refine Sq.v (r_move (look_t rfl)) rfl rfl rfl ?_
  refine Sq.v (r_move (look_t rfl)) rfl rfl rfl ?_
  refine Sq.v (r_lenE Tryz.underlying38 (look_t rfl)) rfl rfl rfl ?_
  refine Sq.v (r_move (look_t rfl)) rfl rfl rfl ?_
  refine Sq.v (r_sliceE (α := T_api_Installed) (m := m + (x0.length - n)) (h := x0.length) Tryz.underlying38 ty52 (look_t rfl) (.some (look_t rfl)) (.some (look_t rfl)) rfl rfl ⟨by omega, hcap⟩) rfl rfl rfl ?_
  refine Sq.clear (i := 0) (lo := m + (x0.length - n)) (n := x0.length - (m + (x0.length - n))) (xs := x0.take m ++ x0.drop n ++ x0.drop (m + (x0.length - n))) Tryz.underlying38 ty52 zr52 rfl (look_t rfl) rfl (by rw [hlen]; omega) rfl ?_
  refine Sq.nil ?_
  refine To.next ?_
  refine Wp.seq ?_
  refine Wp.reg ?_
  refine Sq.v (r_move (look_t rfl)) rfl rfl rfl ?_
  refine Sq.v (r_asg (look_t rfl)) rfl rfl rfl ?_
  refine Sq.nil ?_
  refine To.next ?_
  refine Wp.ret ?_
  have hcut : (lclear (x0.take m ++ x0.drop n ++ x0.drop (m + (x0.length - n))) (m + (x0.length - n)) (x0.length - (m + (x0.length - n)))).take (m + (x0.length - n)) = x0.take m ++ x0.drop n := by
    unfold lclear
    rw [List.append_assoc, List.take_append_of_le_length (by rw [List.length_take, hlen]; omega), List.take_take, Nat.min_self, List.take_append_of_le_length (by rw [hlr]; exact Nat.le_refl _), ← hlr, List.take_length]
  refine To.again (.row 52 (x0.take m ++ x0.drop n) cap00) 0 rfl (fun A W o h => ?_) (fun h => ?_) ?_
  · have h9 := row_take (n := m + (x0.length - n)) (by unfold lclear; simp only [List.length_append, List.length_take, List.length_replicate, List.length_drop, hlen]; omega) h
    rwa [hcut] at h9
  · exact ⟨by rw [← hcut, h.1]; simp, h.2⟩
  refine To.endO1 ((some p, cap00) : Option Nat × Nat) (.cons_cons _ (List.nil_sublist _)) rfl ?_ (rvo_t rfl)
  rw [hlr]
theorem C_math_bits_Len64 {x0 : BitVec 64}  {r : Int} (h : L_math_bits_Len64 x0 = some r) : Meets Tryz.prog 185 [VP.of (x0)] (VP.of (r)) := by
 unfold L_math_bits_Len64 at h
 refine Meets.of Tryz.func185 rfl Tryz.ntmps185 rfl fun W A => ?_
 refine Qsr ?_
 refine Qa ?_
 refine Qns ?_
 refine Qsr ?_
 refine Qm ?_
 refine Qv (r_geq64 (look_t rfl) (look_u64 4294967296 rfl)) ?_
 refine Qnx ?_
 obtain ⟨m1,hm1,h⟩:=Qbs h
 refine Qcm (γ:=Unit) [4] (fun g1 => [(0, VP.of (m1.1)), (2, VP.of (m1.2))]) (fun g1 => []) (fun g1 => ?_) (fun hm hc => ?_) fun hm hc => ?_
 ·clear hm1
  refine To.next ?_
  refine Wp.seq ?_
  refine Qsr ?_
  refine Qm ?_
  refine Qv (r_geq64 (look_t rfl) (look_u64 65536 rfl)) ?_
  refine Qnx ?_
  obtain ⟨m2,hm2,h⟩:=Qbs h
  refine Qcm (γ:=Unit) [4, 8] (fun g2 => [(0, VP.of (m2.1)), (2, VP.of (m2.2))]) (fun g2 => []) (fun g2 => ?_) (fun hm hc => ?_) fun hm hc => ?_
  ·clear hm2
   refine To.next ?_
   refine Wp.seq ?_
   refine Qsr ?_
   refine Qm ?_
   refine Qv (r_geq64 (look_t rfl) (look_u64 256 rfl)) ?_
   refine Qnx ?_
   obtain ⟨m3,hm3,h⟩:=Qbs h
   refine Qcm (γ:=Unit) [4, 8, 14] (fun g3 => [(0, VP.of (m3.1)), (2, VP.of (m3.2))]) (fun g3 => []) (fun g3 => ?_) (fun hm hc => ?_) fun hm hc => ?_
   ·clear hm3
    refine To.next ?_
    refine Qsr ?_
    refine Qm ?_
    refine Qm ?_
    refine Q1 (r_c64_8 Tryz.underlying41 Tryz.underlying5) ?_
    obtain ⟨y1,hy1,h⟩:=Qbs h
    refine Qv (r_idxs8 Tryz.underlying9 (look_str (ByteArray.mk (List.toArray (List.append (List.append [0, 1, 2, 2, 3, 3, 3, 3, 4, 4, 4, 4, 4, 4, 4, 4, 5, 5, 5, 5, 5, 5, 5, 5, 5, 5, 5, 5, 5, 5, 5, 5, 6, 6, 6, 6, 6, 6, 6, 6, 6, 6, 6, 6, 6, 6, 6, 6, 6, 6, 6, 6, 6, 6, 6, 6, 6, 6, 6, 6, 6, 6, 6, 6] [7, 7, 7, 7, 7, 7, 7, 7, 7, 7, 7, 7, 7, 7, 7, 7, 7, 7, 7, 7, 7, 7, 7, 7, 7, 7, 7, 7, 7, 7, 7, 7, 7, 7, 7, 7, 7, 7, 7, 7, 7, 7, 7, 7, 7, 7, 7, 7, 7, 7, 7, 7, 7, 7, 7, 7, 7, 7, 7, 7, 7, 7, 7, 7]) (List.append [8, 8, 8, 8, 8, 8, 8, 8, 8, 8, 8, 8, 8, 8, 8, 8, 8, 8, 8, 8, 8, 8, 8, 8, 8, 8, 8, 8, 8, 8, 8, 8, 8, 8, 8, 8, 8, 8, 8, 8, 8, 8, 8, 8, 8, 8, 8, 8, 8, 8, 8, 8, 8, 8, 8, 8, 8, 8, 8, 8, 8, 8, 8, 8] [8, 8, 8, 8, 8, 8, 8, 8, 8, 8, 8, 8, 8, 8, 8, 8, 8, 8, 8, 8, 8, 8, 8, 8, 8, 8, 8, 8, 8, 8, 8, 8, 8, 8, 8, 8, 8, 8, 8, 8, 8, 8, 8, 8, 8, 8, 8, 8, 8, 8, 8, 8, 8, 8, 8, 8, 8, 8, 8, 8, 8, 8, 8, 8]))))) (look_t rfl) hy1) ?_
    refine Q1 (r_c8i Tryz.underlying5 Tryz.underlying3) ?_
    refine Q2 r_add ?_
    refine Qa ?_
    refine Qnx ?_
    refine Wp.ret ?_
    obtain rfl:=some_in h
    exact Qe1
   ·have h := cond_t hc hm3
    refine Qsr ?_
    refine Qm ?_
    refine Qv (r_shr64 (look_t rfl) (look_u64 8 rfl)) ?_
    refine Qa ?_
    refine Qnx ?_
    refine Wp.reg ?_
    refine Qm ?_
    refine Q2 r_add ?_
    refine Qa ?_
    refine Sq.nil ?_
    obtain rfl:=some_in h
    exact Qmt 0 (hm ())
   ·have h := cond_f hc hm3
    refine Wp.skip ?_
    obtain rfl:=some_in h
    exact Qmt 0 (hm ())
  ·have h := cond_t hc hm2
   refine Qsr ?_
   refine Qm ?_
   refine Qv (r_shr64 (look_t rfl) (look_u64 16 rfl)) ?_
   refine Qa ?_
   refine Qnx ?_
   refine Wp.reg ?_
   refine Qm ?_
   refine Q2 r_add ?_
   refine Qa ?_
   refine Sq.nil ?_
   obtain rfl:=some_in h
   exact Qmt 0 (hm ())
  ·have h := cond_f hc hm2
   refine Wp.skip ?_
   obtain rfl:=some_in h
   exact Qmt 0 (hm ())
 ·have h := cond_t hc hm1
  refine Qsr ?_
  refine Qm ?_
  refine Qv (r_shr64 (look_t rfl) (look_u64 32 rfl)) ?_
  refine Qa ?_
  refine Qnx ?_
  refine Wp.reg ?_
  refine Qa ?_
  refine Sq.nil ?_
  obtain rfl:=some_in h
  exact Qmt 0 (hm ())
 ·have h := cond_f hc hm1
  refine Wp.skip ?_
  obtain rfl:=some_in h
  exact Qmt 0 (hm ())
end Go.Proofs.YtmnggbjcnoffeaaGreat

namespace Go.Proofs.YtmnggbjcnoffeaaGreat
open Go Gv
set_option linter.unusedVariables false
set_option linter.unusedSimpArgs false
set_option maxRecDepth 100000
set_option maxHeartbeats 2000000
theorem Crc4_257h5__trie_Trie_walk (n : Nat) : ∀ (hp : Pool Cell) (x0 : Ref) (x1 : Ref) (x2 : T_api_Value) (x3 : Int) (x5 : List T_trie_Prefix) (pp5 : Nat) (key05_0 : Option Nat) (cap05_0 : Nat) (r : (List T_trie_Prefix)), Lrc4_257h5__trie_Trie_walk n hp x0 x1 x2 x3 x5 = some r → MeetsO Tryz.prog 258 [VP.of (x0), VP.of (x1), VP.of (x2), VP.of (x3), VP.of (⟨257, some [.pointer (some ⟨pp5, 0, none⟩)]⟩ : Raw)] ([⟨some pp5, .varX ([] : List T_trie_Prefix) [(0, slv key05_0 x5.length cap05_0)]⟩, ⟨key05_0, .row 347 (x5 : List T_trie_Prefix) cap05_0⟩] ++ Ents hp) (δ := (Option Nat × Nat)) (fun d => VP.tup []) (fun d => [⟨some pp5, .varX ([] : List T_trie_Prefix) [(0, slv d.1 (r).length d.2)]⟩, ⟨d.1, .row 347 (r : List T_trie_Prefix) d.2⟩] ++ Ents hp) := by
  induction n with
  | zero => intro hp x0 x1 x2 x3 x5 pp5 key05_0 cap05_0 r h; simp [Lrc4_257h5__trie_Trie_walk] at h
  | succ n ih =>
    intro hp x0 x1 x2 x3 x5 pp5 key05_0 cap05_0 r h
    simp only [Lrc4_257h5__trie_Trie_walk] at h
    refine MeetsO.of Tryz.func258 rfl Tryz.ntmps258 rfl fun W A => ?_
    refine Qsr ?_
    refine Qbx fun p1 => ?_
    refine Qns ?_
    refine Qsr ?_
    refine Qm ?_
    refine Qv (r_refnil Tryz.underlying331 (look_t rfl)) ?_
    refine Qnx ?_
    refine Qcd h (fun h=>?_) fun h=>?_
    ·refine Wp.ret ?_
     refine To.ret ?_
     refine To.bring 2 rfl ?_
     refine To.bring 2 rfl ?_
     obtain rfl:=some_in h
     exact To.endO0 (key05_0, cap05_0) (.cons_cons _ (.cons_cons _ (.cons _ (.refl _)))) rfl rfl
    ·refine Qkn ?_
     refine Qsr ?_
     refine Qm ?_
     refine Qm ?_
     refine Ql0 0 ty43 ?_
     refine Qm ?_
     refine Sq.bring 2 rfl ?_
     refine Sq.bring 2 rfl ?_
     obtain ⟨y1,hy1,h⟩:=Qbs h
     refine Sq.vP (OpS.cloP (τs := [VP.of (x1 : Ref), VP.of (x2 : T_api_Value), VP.of (x3 : Int)]) 3 2 rfl en257 (look_clo (look_t rfl)) (Ch3__trie_Trie_All_fn1 hy1) rfl rfl ⟨look_t rfl, look_t rfl, look_t rfl, trivial⟩) rfl rfl rfl fun q1 => ?_
     refine Sq.eqL (L2 := (⟨some pp5, .varX ([] : List T_trie_Prefix) [(0, slv q1.1 y1.length q1.2)]⟩ :: ⟨q1.1, .row 347 (y1 : List T_trie_Prefix) q1.2⟩ :: ⟨some p1, .var (x2 : T_api_Value)⟩ :: Ents hp)) rfl ?_
     refine Qns ?_
     obtain ⟨o1,ho1,h⟩:=Qbs h
     obtain ⟨c1,hc1,h⟩:=Qbs h
     refine Wp.draw mixed 10 [some 17, some 18, some 19, some 20, some 21, some 22, some 23, some 24, some 25, some 26] [[], [], [1], [2], [3], [4], [], [], [7], []] [.val _, .val _, .val _, .val _, .val _, .val _, .val _, .val _, .val _, .val _] [false, false, false, false, false, false, false, false, false, false] (by kernel_rfl) rfl rfl rfl (fun ps1 => ⟨Hm, Hm, Hv fun L' hL => r_nck (look_ref (look_t rfl) ho1), H1 (r_fa fd335_0), Hv fun L' hL => r_ia (k := 0) ar333 (look_t rfl) (look_int 0) ⟨by decide, rfl⟩, Hv fun L' hL => r_loadM (((Lens.id T_trie_node).comp le_T_trie_node_children).comp (Lens.idx (α := Ref) 2 0 (⟨by decide, rfl⟩ : 0 < 2 ∧ (0 : Int) = 0).1)) (r := vget c1.f_children 0) ty331 (look_t rfl) (dmem (fun i e q => hL i e q rfl) (pmem (n := 3) rfl (rds335 hc1) rfl)) rfl rfl, Hl0 2 ty43, Hm, H2 r_add, Hm, trivial⟩) fun ps1 => ?_
     obtain ⟨y2,hy2,h⟩:=Qbs h
     refine Sq.vP (OpS.callP 3 2 rfl en258 (ih _ _ _ _ _ _ _ _ _ _ hy2) rfl rfl ⟨look_t rfl, look_t rfl, look_t rfl, look_t rfl, look_t rfl, trivial⟩) rfl rfl rfl fun q2 => ?_
     refine Sq.eqL (L2 := (⟨some pp5, .varX ([] : List T_trie_Prefix) [(0, slv q2.1 y2.length q2.2)]⟩ :: ⟨q2.1, .row 347 (y2 : List T_trie_Prefix) q2.2⟩ :: ⟨some p1, .var (x2 : T_api_Value)⟩ :: Ents hp)) rfl ?_
     refine Qnx ?_
     obtain ⟨y3,hy3,h⟩:=Qbs h
     obtain ⟨o2,ho2,h⟩:=Qbs h
     obtain ⟨c2,hc2,h⟩:=Qbs h
     obtain ⟨y4,hy4,h⟩:=Qbs h
     obtain ⟨y5,hy5,h⟩:=Qbs h
     refine Wp.draw mixed 20 ((some 28) :: (some 29) :: (some 30) :: (some 31) :: (some 32) :: (some 33) :: (some 34) :: (some 35) :: (some 36) :: (some 37) :: (some 38) :: (some 39) :: (some 40) :: (some 41) :: (some 42) :: (some 43) :: (some 44) :: (some 45) :: (some 46) :: (some 47) :: []) ([] :: [] :: [1] :: [2] :: [3] :: [4] :: [] :: [] :: [] :: [8] :: [9] :: [10] :: [11] :: [] :: [12, 13] :: [7, 14] :: [6, 15] :: [] :: [17] :: [] :: []) (.val _ :: .val _ :: .val _ :: .val _ :: .val _ :: .val _ :: .val _ :: .val _ :: .val _ :: .val _ :: .val _ :: .val _ :: .val _ :: .val _ :: .val _ :: .val _ :: .val _ :: .val _ :: .val _ :: .val _ :: []) (false :: false :: false :: false :: false :: false :: false :: false :: false :: false :: false :: false :: false :: false :: false :: false :: false :: false :: false :: false :: []) (by kernel_rfl) rfl rfl rfl (fun ps2 => ⟨Hm, Hm, Hv fun L' hL => r_nck (look_ref (look_t rfl) ho1), H1 (r_fa fd335_0), Hv fun L' hL => r_ia (k := 1) ar333 (look_t rfl) (look_int 1) ⟨by decide, rfl⟩, Hv fun L' hL => r_loadM (((Lens.id T_trie_node).comp le_T_trie_node_children).comp (Lens.idx (α := Ref) 2 1 (⟨by decide, rfl⟩ : 1 < 2 ∧ (1 : Int) = 1).1)) (r := vget c1.f_children 1) ty331 (look_t rfl) (dmem (fun i e q => hL i e q rfl) (pmem (n := 3) rfl (rds335 hc1) rfl)) rfl rfl, Hl0 2 ty43, Hv fun L' hL => r_call en166 (C_value_Of hy3) ⟨look_u64 1 rfl, trivial⟩, Hm, Hv fun L' hL => r_nck (look_ref (look_t rfl) ho2), H1 (r_fa fd337_0), Hv fun L' hL => r_loadM ((Lens.id T_trie_Trie).comp le_T_trie_Trie_bits) (r := c2.f_bits) ty3 (look_t rfl) (dmem (fun i e q => hL i e q rfl) (pmem (n := 3) rfl (rds337 hc2) rfl)) rfl rfl, H2 r_sub, Hm, H2 r_sub, Hcl en165 (C_value_Left hy4), Hcl en167 (C_value_Or hy5), Hm, H2 r_add, Hm, trivial⟩) fun ps2 => ?_
     obtain ⟨y6,hy6,h⟩:=Qbs h
     refine Sq.vP (OpS.callP 3 2 rfl en258 (ih _ _ _ _ _ _ _ _ _ _ hy6) rfl rfl ⟨look_t rfl, look_t rfl, look_t rfl, look_t rfl, look_t rfl, trivial⟩) rfl rfl rfl fun q3 => ?_
     refine Sq.eqL (L2 := (⟨some pp5, .varX ([] : List T_trie_Prefix) [(0, slv q3.1 y6.length q3.2)]⟩ :: ⟨q3.1, .row 347 (y6 : List T_trie_Prefix) q3.2⟩ :: ⟨some p1, .var (x2 : T_api_Value)⟩ :: Ents hp)) rfl ?_
     refine Sq.nil ?_
     refine To.endn ?_
     refine To.bring 1 rfl ?_
     refine To.bring 1 rfl ?_
     obtain rfl:=some_in h
     exact To.endO0 (q3.1, q3.2) (.cons_cons _ (.cons_cons _ (.cons _ (.refl _)))) rfl rfl
theorem Cc4_257h5__trie_Trie_walk {hp : Pool Cell} {x0 : Ref} {x1 : Ref} {x2 : T_api_Value} {x3 : Int} {x5 : List T_trie_Prefix} {pp5 : Nat} {key05_0 : Option Nat} {cap05_0 : Nat} {r : (List T_trie_Prefix)} (h : Lc4_257h5__trie_Trie_walk hp x0 x1 x2 x3 x5 = some r) : MeetsO Tryz.prog 258 [VP.of (x0), VP.of (x1), VP.of (x2), VP.of (x3), VP.of (⟨257, some [.pointer (some ⟨pp5, 0, none⟩)]⟩ : Raw)] ([⟨some pp5, .varX ([] : List T_trie_Prefix) [(0, slv key05_0 x5.length cap05_0)]⟩, ⟨key05_0, .row 347 (x5 : List T_trie_Prefix) cap05_0⟩] ++ Ents hp) (δ := (Option Nat × Nat)) (fun d => VP.tup []) (fun d => [⟨some pp5, .varX ([] : List T_trie_Prefix) [(0, slv d.1 (r).length d.2)]⟩, ⟨d.1, .row 347 (r : List T_trie_Prefix) d.2⟩] ++ Ents hp) := Crc4_257h5__trie_Trie_walk FUEL hp x0 x1 x2 x3 x5 pp5 key05_0 cap05_0 r h
theorem Ch0_1_ordered_List_find {x0 : T_ordered_List} {x1 : Int} {pp0 : Nat} {key00_0 : Option Nat} {cap00_0 : Nat} {r : Int} (h : Lh0_1_ordered_List_find x0 x1 = some r) : MeetsO Tryz.prog 272 [VP.eq (.pointer (some ⟨pp0, 0, none⟩)), VP.of (x1)] [⟨some pp0, .varX (({ x0 with f_l := [] } : T_ordered_List) : T_ordered_List) [(10, slv key00_0 x0.f_l.length cap00_0)]⟩, ⟨key00_0, .row 52 (x0.f_l : List T_api_Installed) cap00_0⟩] (δ := Unit) (fun d => VP.of (r)) (fun d => [⟨some pp0, .varX (({ x0 with f_l := [] } : T_ordered_List) : T_ordered_List) [(10, slv key00_0 (x0.f_l).length cap00_0)]⟩, ⟨key00_0, .row 52 (x0.f_l : List T_api_Installed) cap00_0⟩]) := by
 unfold Lh0_1_ordered_List_find at h
 refine MeetsO.of Tryz.func272 rfl Tryz.ntmps272 rfl fun W A => ?_
 refine Qsr ?_
 refine Qbx fun p1 => ?_
 refine Qa ?_
 refine Qns ?_
 refine Qsr ?_
 refine Qm ?_
 refine Qv (r_pnil Tryz.underlying170 (look_t rfl)) ?_
 refine Qnx ?_
 refine Wp.condF (look_t rfl) rfl ?_
 refine Qkn ?_
 refine Qsr ?_
 refine Qm ?_
 refine Q1 r_nck ?_
 refine Q1 (r_fa fd228_1) ?_
 refine Qv (r_loadH (i := 1) (q := 0) (β := T_ordered_List) (γ := T_api_Installed) ty38 (look_t rfl) rfl rfl) ?_
 refine Sq.share (α := Int) 0 3 rfl rfl ?_
 refine Qv (r_clo1 (F := (fun a0 => L_ordered_List_find_fn1 a0 x1)) (τs := [VP.ptr x1]) en279 ⟨look_t rfl, trivial⟩ (fun _ _ h => C_ordered_List_find_fn1 h)) ?_
 obtain ⟨y1,hy1,h⟩:=Qbs h
 refine Qv (HR.lend (α := T_api_Installed) 2 10 rfl rfl flat_int (r_call en110 (C_slices_IndexFunc_api_Installed hy1) ⟨look_t rfl, look_t rfl, trivial⟩)) ?_
 refine Qa ?_
 refine Qnx ?_
 refine Wp.ret ?_
 refine To.bring 2 rfl ?_
 refine To.bring 2 rfl ?_
 obtain rfl:=some_in h
 exact Qo1 ()
theorem C_index_hashed_lookup {hp : Pool Cell} {x0 : T_index_hashed} {x1 : Vector T_api_Value 4}  {r : Int × Bool} (h : L_index_hashed_lookup hp x0 x1 = some r) : MeetsO Tryz.prog 228 [VP.of (x0), VP.of (x1)] ([] ++ Ents hp) (δ := Unit) (fun _ => VP.tup [VP.of (r.1), VP.of (r.2)]) (fun _ => [] ++ Ents hp) := by
 unfold L_index_hashed_lookup at h
 refine MeetsO.of Tryz.func228 rfl Tryz.ntmps228 rfl fun W A => ?_
 refine Qsr ?_
 refine Qbx fun p1 => ?_
 refine Qbx fun p2 => ?_
 refine Qa ?_
 refine Qa ?_
 refine Qnr ?_
 refine Q1 (r_fa fd166_0) ?_
 refine Qld 1 le_T_index_hashed_x ty163 ?_
 refine Ql0 0 ty45 ?_
 obtain ⟨y1,hy1,h⟩:=Qbs h
 refine Sq.vS (HS.callQ 2 rfl en231 (C_exact_Index_Get hy1) ⟨look_t rfl, look_t rfl, trivial⟩) rfl rfl rfl ?_
 refine Qxt ?_
 refine Qxt ?_
 refine Qa ?_
 refine Qa ?_
 refine Qnx ?_
 refine Wp.ret ?_
 obtain rfl:=some_in h
 exact To.endO2 () (.cons _ (.cons _ (.refl _))) rfl rfl (rvo_t rfl) (rvo_t rfl)
theorem C_value_Len {x0 : T_api_Value}  {r : Int} (h : L_value_Len x0 = some r) : Meets Tryz.prog 254 [VP.of (x0)] (VP.of (r)) := by
 unfold L_value_Len at h
 refine Meets.of Tryz.func254 rfl Tryz.ntmps254 rfl fun W A => ?_
 refine Qsr ?_
 refine Qbx fun p1 => ?_
 refine Qa ?_
 refine Qns ?_
 refine Qsr ?_
 refine Q1 (r_fa fd43_0) ?_
 refine Qld 0 le_T_api_Value_Hi ty41 ?_
 refine Qv (r_neq64 (look_t rfl) (look_u64 0 rfl)) ?_
 refine Qnx ?_
 refine Qcd h (fun h=>?_) fun h=>?_
 ·refine Qsr ?_
  refine Q1 (r_fa fd43_0) ?_
  refine Qld 0 le_T_api_Value_Hi ty41 ?_
  obtain ⟨y1,hy1,h⟩:=Qbs h
  refine Qcl en185 (C_math_bits_Len64 hy1) ?_
  refine Q2 r_add ?_
  refine Qa ?_
  refine Qnx ?_
  refine Wp.ret ?_
  refine To.ret ?_
  obtain rfl:=some_in h
  exact Qe1
 ·refine Qkn ?_
  refine Qsr ?_
  refine Q1 (r_fa fd43_1) ?_
  refine Qld 0 le_T_api_Value_Lo ty41 ?_
  obtain ⟨y2,hy2,h⟩:=Qbs h
  refine Qcl en185 (C_math_bits_Len64 hy2) ?_
  refine Qa ?_
  refine Qnx ?_
  refine Wp.ret ?_
  obtain rfl:=some_in h
  exact Qe1
theorem C_index_hashed_put {hp : Pool Cell} {x0 : T_index_hashed} {x1 : T_api_Installed}  {r : (Pool Cell)} (h : L_index_hashed_put hp x0 x1 = some r) : MeetsO Tryz.prog 229 [VP.of (x0), VP.of (x1)] ([] ++ Ents hp) (δ := Unit) (fun d => VP.tup []) (fun d => [] ++ Ents r) := by
 unfold L_index_hashed_put at h
 refine MeetsO.of Tryz.func229 rfl Tryz.ntmps229 rfl fun W A => ?_
 refine Qsr ?_
 refine Qbx fun p1 => ?_
 refine Qbx fun p2 => ?_
 refine Qnx ?_
 obtain ⟨y1,hy1,h⟩:=Qbs h
 refine Wp.draw mixed 7 [some 4, some 5, some 6, some 7, some 8, some 9, some 10] [[], [0], [], [2], [3], [], [5]] [.val _, .val _, .val _, .val _, .val _, .val _, .val _] [false, false, false, false, false, false, false] (by kernel_rfl) rfl rfl rfl (fun ps1 => ⟨H1 (r_fa fd166_0), Hld 1 le_T_index_hashed_x ty163, H1 (r_fa fd52_0), Hld 0 le_T_api_Installed_Entry ty50, Hcl en232 (C_index_point hy1), H1 (r_fa fd52_1), Hld 0 le_T_api_Installed_Number ty3, trivial⟩) fun ps1 => ?_
 obtain ⟨y2,hy2,h⟩:=Qbs h
 refine Sq.callP 2 0 rfl en233 (C_exact_Index_Put hy2) rfl rfl ⟨look_t rfl, look_t rfl, look_t rfl, trivial⟩ rfl fun q1 => ?_
 refine Sq.eqL (L2 := (⟨some p2, .var (x1 : T_api_Installed)⟩ :: ⟨some p1, .var (x0 : T_index_hashed)⟩ :: Ents y2.2)) rfl ?_
 refine Sq.nil ?_
 refine To.endn ?_
 obtain rfl:=some_in h
 exact To.endO0 () (.cons _ (.cons _ (.refl _))) rfl rfl
theorem C_cmp_Compare_int {x0 : Int} {x1 : Int}  {r : Int} (h : L_cmp_Compare_int x0 x1 = some r) : Meets Tryz.prog 92 [VP.of (x0), VP.of (x1)] (VP.of (r)) := by
 unfold L_cmp_Compare_int at h
 refine Meets.of Tryz.func92 rfl Tryz.ntmps92 rfl fun W A => ?_
 refine Qsr ?_
 refine Qa ?_
 refine Qnr ?_
 refine Qm ?_
 obtain ⟨y1,hy1,h⟩:=Qbs h
 refine Qcl en126 (C_cmp_isNaN_int hy1) ?_
 refine Qa ?_
 refine Qnr ?_
 refine Qm ?_
 obtain ⟨y2,hy2,h⟩:=Qbs h
 refine Qcl en126 (C_cmp_isNaN_int hy2) ?_
 refine Qa ?_
 refine Qns ?_
 refine Qsr ?_
 refine Qm ?_
 refine Qnx ?_
 refine Qcd h (fun h=>?_) fun h=>?_
 ·refine Wp.seq ?_
  refine Qsr ?_
  refine Qm ?_
  refine Qnx ?_
  refine Qcd h (fun h=>?_) fun h=>?_
  ·refine Qsr ?_
   refine Qa ?_
   refine Qnx ?_
   refine Wp.ret ?_
   refine To.ret ?_
   refine To.ret ?_
   obtain rfl:=some_in h
   exact Qe1
  ·refine Qkn ?_
   refine Qsr ?_
   refine Qa ?_
   refine Qnx ?_
   refine Wp.ret ?_
   refine To.ret ?_
   obtain rfl:=some_in h
   exact Qe1
 ·refine Qkn ?_
  refine Wp.seq ?_
  refine Qsr ?_
  refine Qm ?_
  refine Qnx ?_
  refine Qcd h (fun h=>?_) fun h=>?_
  ·refine Qsr ?_
   refine Qa ?_
   refine Qnx ?_
   refine Wp.ret ?_
   refine To.ret ?_
   obtain rfl:=some_in h
   exact Qe1
  ·refine Qkn ?_
   refine Wp.seq ?_
   refine Qsr ?_
   refine Qm ?_
   refine Qm ?_
   refine Q2 r_lss ?_
   refine Qnx ?_
   refine Qcd h (fun h=>?_) fun h=>?_
   ·refine Qsr ?_
    refine Qa ?_
    refine Qnx ?_
    refine Wp.ret ?_
    refine To.ret ?_
    obtain rfl:=some_in h
    exact Qe1
   ·refine Qkn ?_
    refine Wp.seq ?_
    refine Qsr ?_
    refine Qm ?_
    refine Qm ?_
    refine Q2 r_gtr ?_
    refine Qnx ?_
    refine Qcd h (fun h=>?_) fun h=>?_
    ·refine Qsr ?_
     refine Qa ?_
     refine Qnx ?_
     refine Wp.ret ?_
     refine To.ret ?_
     obtain rfl:=some_in h
     exact Qe1
    ·refine Qkn ?_
     refine Qsr ?_
     refine Qa ?_
     refine Qnx ?_
     refine Wp.ret ?_
     obtain rfl:=some_in h
     exact Qe1
end Go.Proofs.YtmnggbjcnoffeaaGreat

namespace Go.Proofs.YtmnggbjcnoffeaaGreat
open Go Gv
set_option linter.unusedVariables false
set_option linter.unusedSimpArgs false
set_option maxRecDepth 100000
set_option maxHeartbeats 2000000
theorem Ch0_1_ordered_List_Remove {x0 : T_ordered_List} {x1 : Int} {pp0 : Nat} {key00_0 : Option Nat} {cap00_0 : Nat} {r : Bool × T_ordered_List} (h : Lh0_1_ordered_List_Remove x0 x1 = some r) : MeetsO Tryz.prog 268 [VP.eq (.pointer (some ⟨pp0, 0, none⟩)), VP.of (x1)] [⟨some pp0, .varX (({ x0 with f_l := [] } : T_ordered_List) : T_ordered_List) [(10, slv key00_0 x0.f_l.length cap00_0)]⟩, ⟨key00_0, .row 52 (x0.f_l : List T_api_Installed) cap00_0⟩] (δ := (Option Nat × Nat)) (fun d => VP.of (r.1)) (fun d => [⟨some pp0, .varX (({ r.2 with f_l := [] } : T_ordered_List) : T_ordered_List) [(10, slv d.1 (r.2.f_l).length d.2)]⟩, ⟨d.1, .row 52 (r.2.f_l : List T_api_Installed) d.2⟩]) := by
 unfold Lh0_1_ordered_List_Remove at h
 refine MeetsO.of Tryz.func268 rfl Tryz.ntmps268 rfl fun W A => ?_
 refine Qsr ?_
 refine Qa ?_
 refine Qnr ?_
 refine Qm ?_
 refine Qm ?_
 obtain ⟨y1,hy1,h⟩:=Qbs h
 refine Sq.vS (HS.call [0, 1] en272 (Ch0_1_ordered_List_find hy1) ⟨look_t rfl, look_t rfl, trivial⟩ rfl ⟨rfl, rfl, trivial⟩ rfl) rfl rfl rfl ?_
 refine Qa ?_
 refine Qns ?_
 refine Qsr ?_
 refine Qm ?_
 refine Q2 r_lss ?_
 refine Qnx ?_
 refine Qcd h (fun h=>?_) fun h=>?_
 ·refine Qsr ?_
  refine Qa ?_
  refine Qnx ?_
  refine Wp.ret ?_
  refine To.ret ?_
  refine To.bring 1 rfl ?_
  refine To.bring 1 rfl ?_
  obtain rfl:=some_in h
  exact Qo1 (key00_0, cap00_0)
 ·refine Qkn ?_
  refine Qsr ?_
  refine Qm ?_
  refine Qm ?_
  refine Q1 r_nck ?_
  refine Q1 (r_fa fd228_1) ?_
  refine Qv (r_loadH (i := 0) (q := 0) (β := T_ordered_List) (γ := T_api_Installed) ty38 (look_t rfl) rfl rfl) ?_
  refine Qm ?_
  refine Qm ?_
  refine Q2 r_add ?_
  refine Sq.bring 1 rfl ?_
  obtain ⟨y2,hy2,h⟩:=Qbs h
  refine QcO 1 en276 (Cop0_slices_Delete_api_Installed hy2) fun q1 => ?_
  refine Q1 r_nck ?_
  refine Q1 (r_fa fd228_1) ?_
  refine Sq.storeH (i := 1) (γ := T_api_Installed) (b' := (({ x0 with f_l := [] } : T_ordered_List) : T_ordered_List)) (os' := [(10, slv q1.1 y2.length q1.2)]) ((Lens.id T_ordered_List).comp le_T_ordered_List_l) ty38 (look_t rfl) (look_t rfl) slv_one rfl rfl rfl rfl ?_
  refine Qnr ?_
  refine Qa ?_
  refine Qnx ?_
  refine Wp.ret ?_
  refine To.bring 0 rfl ?_
  refine To.bring 1 rfl ?_
  obtain rfl:=some_in h
  exact Qo1 (q1.1, q1.2)
theorem C_value_Fits {x0 : T_api_Value} {x1 : Int}  {r : Bool} (h : L_value_Fits x0 x1 = some r) : Meets Tryz.prog 248 [VP.of (x0), VP.of (x1)] (VP.of (r)) := by
 unfold L_value_Fits at h
 refine Meets.of Tryz.func248 rfl Tryz.ntmps248 rfl fun W A => ?_
 refine Qsr ?_
 refine Qbx fun p1 => ?_
 refine Qa ?_
 refine Qnr ?_
 refine Ql0 0 ty43 ?_
 obtain ⟨y1,hy1,h⟩:=Qbs h
 refine Qcl en254 (C_value_Len hy1) ?_
 refine Qm ?_
 refine Q2 r_leq ?_
 refine Qa ?_
 refine Qnx ?_
 refine Wp.ret ?_
 obtain rfl:=some_in h
 exact Qe1
theorem C_entry_table {x0 : T_api_Schema} {x1 : T_api_Entry}  {r : T_api_Table × Bool} (h : L_entry_table x0 x1 = some r) : Meets Tryz.prog 206 [VP.of (x0), VP.of (x1)] (VP.tup [VP.of (r.1), VP.of (r.2)]) := by
 unfold L_entry_table at h
 refine Meets.of Tryz.func206 rfl Tryz.ntmps206 rfl fun W A => ?_
 refine Qsr ?_
 refine Qbx fun p1 => ?_
 refine Qbx fun p2 => ?_
 refine Qal zr65 fun p3 => ?_
 refine Qa ?_
 refine Qnr ?_
 refine Ql0 2 ty33 ?_
 refine Q1 (r_fa fd50_0) ?_
 refine Qld 1 le_T_api_Entry_Table ty3 ?_
 obtain ⟨y1,hy1,h⟩:=Qbs h
 refine Qcl en82 (C_check_TableOf hy1) ?_
 refine Qa ?_
 refine Qns ?_
 refine Qsr ?_
 refine Qm ?_
 refine Q2 r_lss ?_
 refine Qnx ?_
 refine Qcd h (fun h=>?_) fun h=>?_
 ·refine Qsr ?_
  refine Qbd bu65 zr65 (default : T_api_Table) .nil ?_
  refine Qs0 0 ty65 ?_
  refine Qa ?_
  refine Qnx ?_
  refine Wp.ret ?_
  refine To.ret ?_
  obtain rfl:=some_in h
  exact To.end2 rfl (Qrc 0 ty65) (rv_t rfl)
 ·refine Qkn ?_
  refine Qsr ?_
  refine Q1 (r_fa fd33_4) ?_
  refine Qld 2 le_T_api_Schema_Tables ty28 ?_
  refine Qm ?_
  obtain ⟨k1,hk1,h⟩:=Qbs h
  refine Qix hk1 Tryz.underlying28 ty65 ?_
  refine Q1 (r_loadp ty65) ?_
  refine Qs0 0 ty65 ?_
  refine Qa ?_
  refine Qnx ?_
  refine Wp.ret ?_
  obtain rfl:=some_in h
  exact To.end2 rfl (Qrc 0 ty65) (rv_t rfl)
theorem C_entry_bitsOf {x0 : T_api_Schema} {x1 : T_api_Key}  {r : Int} (h : L_entry_bitsOf x0 x1 = some r) : Meets Tryz.prog 283 [VP.of (x0), VP.of (x1)] (VP.of (r)) := by
 unfold L_entry_bitsOf at h
 refine Meets.of Tryz.func283 rfl Tryz.ntmps283 rfl fun W A => ?_
 refine Qsr ?_
 refine Qbx fun p1 => ?_
 refine Qbx fun p2 => ?_
 refine Qa ?_
 refine Qnr ?_
 refine Ql0 1 ty33 ?_
 refine Q1 (r_fa fd86_1) ?_
 refine Qld 0 le_T_api_Key_Field ty3 ?_
 obtain ⟨y1,hy1,h⟩:=Qbs h
 refine Qcl en85 (C_check_FieldOf hy1) ?_
 refine Qa ?_
 refine Qns ?_
 refine Qsr ?_
 refine Qm ?_
 refine Q2 r_lss ?_
 refine Qnx ?_
 refine Qcd h (fun h=>?_) fun h=>?_
 ·refine Qsr ?_
  refine Qa ?_
  refine Qnx ?_
  refine Wp.ret ?_
  refine To.ret ?_
  obtain rfl:=some_in h
  exact Qe1
 ·refine Qkn ?_
  refine Qsr ?_
  refine Q1 (r_fa fd33_0) ?_
  refine Qld 1 le_T_api_Schema_Fields ty24 ?_
  refine Qm ?_
  obtain ⟨k1,hk1,h⟩:=Qbs h
  refine Qix hk1 Tryz.underlying24 ty119 ?_
  refine Qfp le_T_api_Field_Bits fd119_2 ?_
  refine Q1 (r_loadp ty3) ?_
  refine Qa ?_
  refine Qnx ?_
  refine Wp.ret ?_
  obtain rfl:=some_in h
  exact Qe1
end Go.Proofs.YtmnggbjcnoffeaaGreat

namespace Go.Proofs.YtmnggbjcnoffeaaGreat
open Go Gv
set_option linter.unusedVariables false
set_option linter.unusedSimpArgs false
set_option maxRecDepth 100000
set_option maxHeartbeats 2000000
theorem C_entry_Covers {x0 : T_api_Match} {x1 : Int} {x2 : Int} {x3 : T_api_Value}  {r : Bool} (h : L_entry_Covers x0 x1 x2 x3 = some r) : Meets Tryz.prog 282 [VP.of (x0), VP.of (x1), VP.of (x2), VP.of (x3)] (VP.of (r)) := by
 unfold L_entry_Covers at h
 refine Meets.of Tryz.func282 rfl Tryz.ntmps282 rfl fun W A => ?_
 refine Qsr ?_
 refine Qbx fun p1 => ?_
 refine Qbx fun p2 => ?_
 refine Qa ?_
 refine Qns ?_
 refine Qsr ?_
 refine Q1 (r_fa fd88_0) ?_
 refine Qld 1 le_T_api_Match_Present ty4 ?_
 refine Q1 r_not ?_
 refine Qnx ?_
 refine Qcd h (fun h=>?_) fun h=>?_
 ·refine Qsr ?_
  refine Qm ?_
  refine Q2 r_geq ?_
  refine Qm ?_
  refine Qg1 r_move ?_
  refine Qg2 r_leq ?_
  refine Qan ?_
  refine Qa ?_
  refine Qnx ?_
  refine Wp.ret ?_
  refine To.ret ?_
  obtain rfl:=some_in h
  exact Qe1
 ·refine Qkn ?_
  refine Wp.seq ?_
  refine Qsr ?_
  refine Qm ?_
  refine Qnx ?_
  refine Wp.block ?_
  refine Qsr ?_
  refine Q2 r_eql ?_
  refine Qa ?_
  refine Qnx ?_
  refine Qcd h (fun h=>?_) fun h=>?_
  ·refine Qsr ?_
   refine Ql0 0 ty43 ?_
   refine Q1 (r_fa fd88_1) ?_
   refine Qld 1 le_T_api_Match_Value ty43 ?_
   refine Q2 (r_eqA eqv43 rfl eqg43 rfl) ?_
   refine Qa ?_
   refine Qnx ?_
   refine Wp.ret ?_
   refine To.bret ?_
   refine To.ret ?_
   obtain rfl:=some_in h
   exact Qe1
  ·refine Qsr ?_
   refine Q2 r_eql ?_
   refine Qa ?_
   refine Qnx ?_
   refine Qcd h (fun h=>?_) fun h=>?_
   ·refine Qsr ?_
    refine Qm ?_
    refine Q1 (r_fa fd88_3) ?_
    refine Qld 1 le_T_api_Match_Prefix ty3 ?_
    obtain ⟨y1,hy1,h⟩:=Qbs h
    refine Qcl en189 (C_value_Leading hy1) ?_
    refine Qal zr43 fun p3 => ?_
    refine Qs0 0 ty43 ?_
    refine Qns ?_
    obtain ⟨y2,hy2,h⟩:=Qbs h
    obtain ⟨y3,hy3,h⟩:=Qbs h
    refine Wp.draw mixed 8 [some 32, some 33, some 34, some 35, some 36, some 37, some 38, some 39] [[], [], [0, 1], [], [3], [], [4, 5], [2, 6]] [.val _, .val _, .val _, .val _, .val _, .val _, .val _, .val _] [false, false, false, false, false, false, false, false] (by kernel_rfl) rfl rfl rfl (fun ps1 => ⟨Hl0 1 ty43, Hl0 0 ty43, Hcl en148 (C_value_And hy2), H1 (r_fa fd88_1), Hld 2 le_T_api_Match_Value ty43, Hl0 0 ty43, Hcl en148 (C_value_And hy3), H2 (r_eqA eqv43 rfl eqg43 rfl), trivial⟩) fun ps1 => ?_
    refine Qa ?_
    refine Qnx ?_
    refine Wp.ret ?_
    refine To.bret ?_
    refine To.ret ?_
    obtain rfl:=some_in h
    exact Qe1
   ·refine Qsr ?_
    refine Q2 r_eql ?_
    refine Qa ?_
    refine Qnx ?_
    refine Qcd h (fun h=>?_) fun h=>?_
    ·refine Wp.seq ?_
     obtain ⟨y4,hy4,h⟩:=Qbs h
     refine Wp.draw mixed 7 [some 42, some 43, some 44, some 45, some 46, some 47, some 48] [[], [], [1], [0, 2], [], [4], [3, 5]] [.val _, .val _, .val _, .val _, .val _, .val _, .val _] [false, false, false, false, false, false, false] (by kernel_rfl) rfl rfl rfl (fun ps2 => ⟨Hl0 0 ty43, H1 (r_fa fd88_2), Hld 1 le_T_api_Match_Mask ty43, Hcl en148 (C_value_And hy4), H1 (r_fa fd88_1), Hld 1 le_T_api_Match_Value ty43, H2 (r_eqA eqv43 rfl eqg43 rfl), trivial⟩) fun ps2 => ?_
     refine Qa ?_
     refine Qnx ?_
     refine Wp.ret ?_
     refine To.bret ?_
     refine To.ret ?_
     obtain rfl:=some_in h
     exact Qe1
    ·refine Qsr ?_
     refine Q2 r_eql ?_
     refine Qa ?_
     refine Qnx ?_
     refine Qcd h (fun h=>?_) fun h=>?_
     ·refine Qsr ?_
      refine Q1 (r_fa fd88_1) ?_
      refine Qld 1 le_T_api_Match_Value ty43 ?_
      refine Ql0 0 ty43 ?_
      obtain ⟨y5,hy5,h⟩:=Qbs h
      refine Qcl en137 (C_value_Compare hy5) ?_
      refine Q2 r_leq ?_
      refine Qm ?_
      refine Qg (fun hb => r_load (i := 0) (Lens.id T_api_Value) (r := x3) ty43 (look_t rfl) rfl rfl rfl) ?_
      refine Qg1 (r_fa fd88_4) ?_
      refine Qg (fun hb => r_load (i := 1) ((Lens.id T_api_Match).comp le_T_api_Match_High) (r := x0.f_High) ty43 (look_tc rfl hb) rfl rfl rfl) ?_
      obtain ⟨y6,hy6,h⟩:=Qbs h
      refine Qg (fun hb => r_call en137 (C_value_Compare (condM_some hy6 hb)) ⟨look_tc rfl hb, look_tc rfl hb, trivial⟩) ?_
      refine Qg2 r_leq ?_
      refine Qan ?_
      refine Qa ?_
      refine Qnx ?_
      refine Wp.ret ?_
      refine To.bret ?_
      refine To.ret ?_
      obtain rfl:=some_in h
      exact Qe1
     ·refine Wp.skip ?_
      refine To.bnorm ?_
      refine To.next ?_
      refine Qsr ?_
      refine Qa ?_
      refine Qnx ?_
      refine Wp.ret ?_
      obtain rfl:=some_in h
      exact Qe1
theorem C_entry_Prefix {x0 : T_api_Schema} {x1 : T_api_Entry}  {r : Int} (h : L_entry_Prefix x0 x1 = some r) : Meets Tryz.prog 190 [VP.of (x0), VP.of (x1)] (VP.of (r)) := by
 unfold L_entry_Prefix at h
 refine Meets.of Tryz.func190 rfl Tryz.ntmps190 rfl fun W A => ?_
 refine Qsr ?_
 refine Qbx fun p1 => ?_
 refine Qbx fun p2 => ?_
 refine Qa ?_
 refine Qnr ?_
 refine Ql0 1 ty33 ?_
 refine Ql0 0 ty50 ?_
 obtain ⟨y1,hy1,h⟩:=Qbs h
 refine Qcl en206 (C_entry_table hy1) ?_
 refine Qm ?_
 refine Qxt ?_
 refine Qxt ?_
 refine Qal zr65 fun p3 => ?_
 refine Qs0 0 ty65 ?_
 refine Qa ?_
 refine Qnr ?_
 refine Q1 (r_fa fd65_2) ?_
 refine Qld 0 le_T_api_Table_Keys ty62 ?_
 obtain ⟨y2,hy2,h⟩:=Qbs h
 refine Qv (r_call en146 (C_slices_IndexFunc_api_Key hy2) ⟨look_t rfl, look_fn1 en207 (fun _ _ => C_entry_Prefix_fn1), trivial⟩) ?_
 refine Qa ?_
 refine Qns ?_
 refine Qsr ?_
 refine Qm ?_
 refine Q1 r_not ?_
 refine Qm ?_
 refine Qg1 r_move ?_
 refine Qg2 r_lss ?_
 refine Qor ?_
 refine Qm ?_
 refine Qg1 r_move ?_
 refine Qg1 (r_fa fd50_1) ?_
 refine Qg (fun hb => r_load (i := 1) ((Lens.id T_api_Entry).comp le_T_api_Entry_Matches) (r := x1.f_Matches) ty47 (look_tc rfl hb) rfl rfl rfl) ?_
 refine Qg1 (r_len Tryz.underlying47) ?_
 refine Qg2 r_geq ?_
 obtain ⟨z1,hz1,h⟩:=Qbs h
 refine Qn hz1 (r_or (look_t rfl) (look_t rfl) (fun h => h)) ?_
 refine Qnx ?_
 refine Qcd h (fun h=>?_) fun h=>?_
 ·refine Qsr ?_
  refine Qa ?_
  refine Qnx ?_
  refine Wp.ret ?_
  refine To.ret ?_
  obtain rfl:=some_in h
  exact Qe1
 ·refine Qkn ?_
  refine Qsr ?_
  refine Q1 (r_fa fd50_1) ?_
  refine Qld 1 le_T_api_Entry_Matches ty47 ?_
  refine Qm ?_
  obtain ⟨k1,hk1,h⟩:=Qbs h
  refine Qix hk1 Tryz.underlying47 ty88 ?_
  refine Qfp le_T_api_Match_Prefix fd88_3 ?_
  refine Q1 (r_loadp ty3) ?_
  refine Qa ?_
  refine Qnx ?_
  refine Wp.ret ?_
  obtain rfl:=some_in h
  exact Qe1
end Go.Proofs.YtmnggbjcnoffeaaGreat

namespace Go.Proofs.YtmnggbjcnoffeaaGreat
open Go Gv
set_option linter.unusedVariables false
set_option linter.unusedSimpArgs false
set_option maxRecDepth 100000
set_option maxHeartbeats 2000000
theorem C_entry_Matches {x0 : T_api_Schema} {x1 : T_api_Entry} {x2 : Vector T_api_Value 4}  {r : Bool} (h : L_entry_Matches x0 x1 x2 = some r) : Meets Tryz.prog 278 [VP.of (x0), VP.of (x1), VP.of (x2)] (VP.of (r)) := by
 unfold L_entry_Matches at h
 refine Meets.of Tryz.func278 rfl Tryz.ntmps278 rfl fun W A => ?_
 refine Qsr ?_
 refine Qbx fun p1 => ?_
 refine Qbx fun p2 => ?_
 refine Qbx fun p3 => ?_
 refine Qa ?_
 refine Qnr ?_
 refine Ql0 2 ty33 ?_
 refine Ql0 1 ty50 ?_
 obtain ⟨y1,hy1,h⟩:=Qbs h
 refine Qcl en206 (C_entry_table hy1) ?_
 refine Qm ?_
 refine Qxt ?_
 refine Qxt ?_
 refine Qal zr65 fun p4 => ?_
 refine Qs0 0 ty65 ?_
 refine Qa ?_
 refine Qns ?_
 refine Qsr ?_
 refine Qm ?_
 refine Q1 r_not ?_
 refine Qnx ?_
 refine Qcd h (fun h=>?_) fun h=>?_
 ·refine Qsr ?_
  refine Qa ?_
  refine Qnx ?_
  refine Wp.ret ?_
  refine To.ret ?_
  obtain rfl:=some_in h
  exact Qe1
 ·refine Qkn ?_
  refine Wp.seq ?_
  refine Qsr ?_
  refine Q1 (r_fa fd65_2) ?_
  refine Qld 0 le_T_api_Table_Keys ty62 ?_
  refine Q1 (r_len Tryz.underlying62) ?_
  refine Qm ?_
  refine Qnx ?_
  refine Wp.block ?_
  obtain ⟨e1,hl,h⟩:=Qbs h
  refine Qlp (γ:=Unit) (δ:=Unit) hl [0, 1, 2, 3, 4, 5, 6, 7, 8, 18, 20, 21] (fun s1 g1 => [(22, VP.of (s1))]) (fun s1 g1 => []) (fun q1 => Sum.elim (fun q1 => Exit.exit 0) (fun q1 => Exit.ret) q1) (fun q1 g1 => Sum.elim (fun q1 => [(22, VP.of (q1.1)), (23, VP.of (q1.2))]) (fun q1 => [(9, VP.of (q1.1)), (22, VP.of (q1.2.1)), (23, VP.of (q1.2.2.1)), (52, VP.of (q1.2.2.2))]) q1) (fun q1 g1 => Sum.elim (fun q1 => []) (fun q1 => []) q1) () (fun s1 r h g1 => ?_) fun g1 => ?_
  ·clear hl
   refine Qsr ?_
   refine Q2 r_lss ?_
   refine Qns ?_
   refine Qcd h (fun h=>?_) fun h=>?_
   ·refine Qkn ?_
    refine Wp.seq ?_
    refine Wp.block ?_
    refine Qsr ?_
    refine Qm ?_
    obtain ⟨k1,hk1,h⟩:=Qbs h
    refine Qix hk1 Tryz.underlying62 ty86 ?_
    refine Q1 (r_loadp ty86) ?_
    refine Qal zr86 fun p5 => ?_
    refine Qa ?_
    refine Qs0 0 ty86 ?_
    refine Qns ?_
    obtain ⟨k2,hk2,h⟩:=Qbs h
    obtain ⟨y2,hy2,h⟩:=Qbs h
    obtain ⟨k3,hk3,h⟩:=Qbs h
    obtain ⟨y3,hy3,h⟩:=Qbs h
    obtain ⟨z1,hz1,h⟩:=Qbs h
    refine Wp.draw mixed 26 ((some 27) :: (some 28) :: (some 29) :: (some 30) :: (some 31) :: (some 32) :: (some 33) :: (some 34) :: (some 35) :: (some 36) :: (some 37) :: (some 38) :: (some 39) :: (some 40) :: (some 41) :: (some 42) :: (some 43) :: (some 44) :: (some 45) :: (some 46) :: (some 47) :: (some 48) :: (some 49) :: (some 50) :: (some 51) :: (some 52) :: []) ([] :: [] :: [1] :: [2] :: [0, 3] :: [4] :: [5] :: [5, 6] :: [5, 7] :: [8] :: [9] :: [9, 10] :: [9] :: [9, 11, 12] :: [9, 13] :: [9] :: [9, 15] :: [9] :: [9] :: [9, 17, 18] :: [9] :: [9, 20] :: [9, 21] :: [9, 14, 16, 19, 22] :: [9, 23] :: [9, 24] :: []) (.val _ :: .val _ :: .val _ :: .val _ :: .val _ :: .val _ :: .val _ :: .val _ :: .val _ :: .val _ :: .val _ :: .val _ :: .val _ :: .val _ :: .val _ :: .val _ :: .val _ :: .val _ :: .val _ :: .val _ :: .val _ :: .val _ :: .val _ :: .val _ :: .val _ :: .val _ :: []) (false :: false :: false :: false :: false :: false :: false :: false :: false :: false :: false :: false :: false :: false :: false :: false :: false :: false :: false :: false :: false :: false :: false :: false :: false :: false :: []) (by kernel_rfl) rfl rfl rfl (fun ps1 => ⟨Hm, H1 (r_fa fd50_1), Hld 3 le_T_api_Entry_Matches ty47, H1 (r_len Tryz.underlying47), H2 r_geq, Hm, Hg fun L' hL => fun hb => r_move (look_t rfl), Hg fun L' hL => fun hb => r_geq (look_tc rfl hb) (look_int 4), Hv fun L' hL => r_or (look_t rfl) (look_t rfl) (fun h => h), Hm, Hg fun L' hL => fun hb => r_fa fd50_1 (look_t rfl), Hg fun L' hL => fun hb => r_load (i := 3) ((Lens.id T_api_Entry).comp le_T_api_Entry_Matches) (r := x1.f_Matches) ty47 (look_tc rfl hb) (hL _ _ rfl rfl) rfl rfl, Hg fun L' hL => fun hb => r_move (look_t rfl), Hg fun L' hL => fun hb => r_ias (k := k2) Tryz.underlying47 ty88 (look_tc rfl hb) (look_tc rfl hb) (idx_some (condM_some hk2 hb)), Hg fun L' hL => fun hb => r_loadp ty88 (look_tc rfl hb), Hg fun L' hL => fun hb => r_fa fd86_2 (look_t rfl), Hg fun L' hL => fun hb => r_load (i := 0) ((Lens.id T_api_Key).comp le_T_api_Key_Kind) (r := (lget y1.1.f_Keys k1).f_Kind) ty3 (look_tc rfl hb) (hL _ _ rfl rfl) rfl rfl, Hg fun L' hL => fun hb => r_load (i := 4) (Lens.id T_api_Schema) (r := x0) ty33 (look_t rfl) (hL _ _ rfl rfl) rfl rfl, Hg fun L' hL => fun hb => r_load (i := 0) (Lens.id T_api_Key) (r := (lget y1.1.f_Keys k1)) ty86 (look_t rfl) (hL _ _ rfl rfl) rfl rfl, Hg fun L' hL => fun hb => r_call en283 (C_entry_bitsOf (condM_some hy2 hb)) ⟨look_tc rfl hb, look_tc rfl hb, trivial⟩, Hg fun L' hL => fun hb => r_move (look_t rfl), Hg fun L' hL => fun hb => r_ia (k := k3) ar45 (look_t rfl) (look_tc rfl hb) (idx_some (condM_some hk3 hb)), Hg fun L' hL => fun hb => r_load (i := 2) ((Lens.id (Vector T_api_Value 4)).comp (Lens.idx (α := T_api_Value) 4 k3 (idx_some (condM_some hk3 hb)).1)) (r := vget x2 k3) ty43 (look_tc rfl hb) (hL _ _ rfl rfl) rfl rfl, Hg fun L' hL => fun hb => r_call en282 (C_entry_Covers (condM_some hy3 hb)) ⟨look_tc rfl hb, look_tc rfl hb, look_tc rfl hb, look_tc rfl hb, trivial⟩, Hg fun L' hL => fun hb => r_not (look_tc rfl hb), Hn hz1 fun L' hL => r_or (look_t rfl) (look_t rfl) (fun h => h), trivial⟩) fun ps1 => ?_
    refine Qnx ?_
    refine Qcd h (fun h=>?_) fun h=>?_
    ·refine Qsr ?_
     refine Qa ?_
     refine Qnx ?_
     refine Wp.ret ?_
     refine To.bret ?_
     refine To.ret ?_
     obtain rfl:=some_in h
     exact Qlv () 1
    ·refine Wp.skip ?_
     refine To.bnorm ?_
     refine To.next ?_
     refine Wp.reg ?_
     refine Q2 r_add ?_
     refine Qm ?_
     refine Sq.nil ?_
     obtain rfl:=some_in h
     exact Qrd () 1
   ·refine Wp.exit ?_
    refine To.exit ?_
    obtain rfl:=some_in h
    exact Qlv () 0
  ·clear hl
   rcases e1 with e1 | e1
   ·simp only [Sum.elim_inl] at h
    refine To.bexit ?_
    refine To.next ?_
    refine Qsr ?_
    refine Qa ?_
    refine Qnx ?_
    refine Wp.ret ?_
    obtain rfl:=some_in h
    exact Qe1
   ·simp only [Sum.elim_inr] at h
    refine To.bret ?_
    refine To.ret ?_
    obtain rfl:=some_in h
    exact Qe1
theorem C_entry_Beats {x0 : T_api_Schema} {x1 : T_api_Installed} {x2 : T_api_Installed}  {r : Bool} (h : L_entry_Beats x0 x1 x2 = some r) : Meets Tryz.prog 150 [VP.of (x0), VP.of (x1), VP.of (x2)] (VP.of (r)) := by
 unfold L_entry_Beats at h
 refine Meets.of Tryz.func150 rfl Tryz.ntmps150 rfl fun W A => ?_
 refine Qsr ?_
 refine Qbx fun p1 => ?_
 refine Qbx fun p2 => ?_
 refine Qbx fun p3 => ?_
 refine Qa ?_
 refine Qns ?_
 obtain ⟨y1,hy1,h⟩:=Qbs h
 obtain ⟨y2,hy2,h⟩:=Qbs h
 obtain ⟨y3,hy3,h⟩:=Qbs h
 obtain ⟨y4,hy4,h⟩:=Qbs h
 obtain ⟨y5,hy5,h⟩:=Qbs h
 obtain ⟨y6,hy6,h⟩:=Qbs h
 refine Wp.draw mixed 24 ((some 7) :: (some 8) :: (some 9) :: (some 10) :: (some 11) :: (some 12) :: (some 13) :: (some 14) :: (some 15) :: (some 16) :: (some 17) :: (some 18) :: (some 19) :: (some 20) :: (some 21) :: (some 22) :: (some 23) :: (some 24) :: (some 25) :: (some 26) :: (some 27) :: (some 28) :: (some 29) :: (some 30) :: []) ([] :: [0] :: [1] :: [] :: [3] :: [4] :: [2, 5] :: [] :: [] :: [8] :: [7, 9] :: [] :: [] :: [12] :: [11, 13] :: [10, 14] :: [] :: [16] :: [] :: [18] :: [17, 19] :: [6, 15, 20] :: [21] :: [22] :: []) (.val _ :: .val _ :: .val _ :: .val _ :: .val _ :: .val _ :: .val _ :: .val _ :: .val _ :: .val _ :: .val _ :: .val _ :: .val _ :: .val _ :: .val _ :: .val _ :: .val _ :: .val _ :: .val _ :: .val _ :: .val _ :: .val _ :: .val _ :: .val _ :: []) (false :: false :: false :: false :: false :: false :: false :: false :: false :: false :: false :: false :: false :: false :: false :: false :: false :: false :: false :: false :: false :: false :: false :: false :: []) (by kernel_rfl) rfl rfl rfl (fun ps1 => ⟨H1 (r_fa fd52_0), H1 (r_fa fd50_2), Hld 1 (le_T_api_Installed_Entry.comp le_T_api_Entry_Priority) ty3, H1 (r_fa fd52_0), H1 (r_fa fd50_2), Hld 0 (le_T_api_Installed_Entry.comp le_T_api_Entry_Priority) ty3, Hcl en92 (C_cmp_Compare_int hy1), Hl0 2 ty33, H1 (r_fa fd52_0), Hld 1 le_T_api_Installed_Entry ty50, Hcl en190 (C_entry_Prefix hy2), Hl0 2 ty33, H1 (r_fa fd52_0), Hld 0 le_T_api_Installed_Entry ty50, Hcl en190 (C_entry_Prefix hy3), Hcl en92 (C_cmp_Compare_int hy4), H1 (r_fa fd52_1), Hld 1 le_T_api_Installed_Number ty3, H1 (r_fa fd52_1), Hld 0 le_T_api_Installed_Number ty3, Hcl en92 (C_cmp_Compare_int hy5), Hv fun L' hL => r_bsl (r := [y1, y4, y5]) Tryz.underlying63 ty3 zr3 rfl rfl (.cons (by simp) (look_t rfl) (.cons (by simp) (look_t rfl) (.cons (by simp) (look_t rfl) (.nil)))), Hcl en133 (C_entry_first hy6), H2 r_gtr, trivial⟩) fun ps1 => ?_
 refine Qa ?_
 refine Qnx ?_
 refine Wp.ret ?_
 obtain rfl:=some_in h
 exact Qe1
end Go.Proofs.YtmnggbjcnoffeaaGreat

