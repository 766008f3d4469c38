/-
  Printed by the decompiler (dec.py) out of the seat's translation. Each function meets its functional program. Conditions: none.
-/
import Derived.Test.YtodajdohokmjnaaDc6
import Derived.Test.YtodajdohokmjnaaDc8
import Derived.Test.YtodajdohokmjnaaDc11
import Derived.Test.YtodajdohokmjnaaDc12
import Derived.Test.YtodajdohokmjnaaDc13
import Derived.Test.YtodajdohokmjnaaDc14
namespace Go.Proofs.Ytodajdohokmjnaa
open Go Gv
set_option linter.unusedVariables false
set_option linter.unusedSimpArgs false
set_option maxRecDepth 100000
set_option maxHeartbeats 2000000 in
theorem C_mcase_Codes_Schema {x0 : T_mcase_Codes} {pp0 : Nat} {r : T_api_Schema × T_mcase_Codes} (h : L_mcase_Codes_Schema x0 = some r) : MeetsO Try.prog 13 [VP.eq (.pointer (some ⟨pp0, 0, none⟩))] [⟨some pp0, .var (x0 : T_mcase_Codes)⟩] (δ := Unit) (fun d => VP.of (r.1)) (fun d => [⟨some pp0, .var (r.2 : T_mcase_Codes)⟩]) := by
  unfold L_mcase_Codes_Schema at h
  refine MeetsO.of Try.func13 rfl Try.ntmps13 rfl fun W A => ?_
  refine Wp.seq ?_
  refine Wp.reg ?_
  refine Sq.alloc zr33 rfl fun p1 => ?_
  refine Sq.nil ?_
  refine To.next ?_
  refine Wp.seq ?_
  refine Wp.reg ?_
  refine Sq.v (r_move (look_t rfl)) rfl rfl rfl ?_
  refine Sq.bring 1 rfl ?_
  obtain ⟨y1, hy1, h⟩ := bind_some h
  refine Sq.callO (Lin := [⟨some pp0, .var (x0 : T_mcase_Codes)⟩]) (Lr := [⟨some p1, .var ((default : T_api_Schema) : T_api_Schema)⟩]) en49 (C_mcase_Codes_Next hy1) ⟨look_t rfl, look_int 8, trivial⟩ rfl fun q1 => ?_
  refine Sq.v (r_add (look_int 2) (look_t rfl)) rfl rfl rfl ?_
  refine Sq.v (r_move (look_t rfl)) rfl rfl rfl ?_
  refine Sq.bring 0 rfl ?_
  obtain ⟨y2, hy2, h⟩ := bind_some h
  refine Sq.callO (Lin := [⟨some pp0, .var (y1.2 : T_mcase_Codes)⟩]) (Lr := [⟨some p1, .var ((default : T_api_Schema) : T_api_Schema)⟩]) en49 (C_mcase_Codes_Next hy2) ⟨look_t rfl, look_int 30, trivial⟩ rfl fun q2 => ?_
  refine Sq.v (r_add (look_int 12) (look_t rfl)) rfl rfl rfl ?_
  refine Sq.v (r_buildX (b := ({ (default : T_api_Schema) with f_MaxBatch := w64 (2 + y1.1), f_Budget := w64 (12 + y2.1) } : T_api_Schema)) [5, 7] zh33_5_7 rfl bu33 zr33 (.cons le_T_api_Schema_MaxBatch rfl (look_t rfl) rfl (by rfl) (.cons le_T_api_Schema_Budget rfl (look_t rfl) rfl (by rfl) (.nil)))) rfl rfl rfl ?_
  refine Sq.own (α := T_api_Stage) 131 ?_
  refine Sq.own (α := T_api_Ref) 133 ?_
  refine Sq.allocX (z := (default : T_api_Schema)) [5, 7] zh33_5_7 zr33 rfl fun p2 => ?_
  refine Sq.own (α := T_api_Stage) 131 ?_
  refine Sq.own (α := T_api_Ref) 133 ?_
  refine Sq.storeW (i := 2) ty33 (look_t rfl) (look_t rfl) rfl ?_
  refine Sq.nil ?_
  refine To.next ?_
  refine Wp.seq ?_
  refine Wp.reg ?_
  obtain ⟨z1, hz1, h⟩ := bind_some h
  refine Sq.v ((r_build (b := { f_ID := 1, f_Name := ByteArray.mk #[105, 110, 103, 114, 101, 115, 115], f_Bits := 16 : T_api_Field }) rfl bu123 zr123 (.cons le_T_api_Field_ID rfl (look_int 1) rfl (.cons le_T_api_Field_Name rfl (look_str (ByteArray.mk #[105, 110, 103, 114, 101, 115, 115])) rfl (.cons le_T_api_Field_Bits rfl (look_int 16) rfl (.nil))))).as (some_in hz1)) rfl rfl rfl ?_
  obtain ⟨z2, hz2, h⟩ := bind_some h
  refine Sq.v ((r_build (b := { f_ID := 2, f_Name := ByteArray.mk #[101, 103, 114, 101, 115, 115], f_Bits := 16 : T_api_Field }) rfl bu123 zr123 (.cons le_T_api_Field_ID rfl (look_int 2) rfl (.cons le_T_api_Field_Name rfl (look_str (ByteArray.mk #[101, 103, 114, 101, 115, 115])) rfl (.cons le_T_api_Field_Bits rfl (look_int 16) rfl (.nil))))).as (some_in hz2)) rfl rfl rfl ?_
  obtain ⟨z3, hz3, h⟩ := bind_some h
  refine Sq.v ((r_build (b := { f_ID := 3, f_Name := ByteArray.mk #[109, 101, 116, 97], f_Bits := 8 : T_api_Field }) rfl bu123 zr123 (.cons le_T_api_Field_ID rfl (look_int 3) rfl (.cons le_T_api_Field_Name rfl (look_str (ByteArray.mk #[109, 101, 116, 97])) rfl (.cons le_T_api_Field_Bits rfl (look_int 8) rfl (.nil))))).as (some_in hz3)) rfl rfl rfl ?_
  refine Sq.v (r_build (b := { f_ID := 4, f_Name := ByteArray.mk #[97], f_Bits := 4 : T_api_Field }) rfl bu123 zr123 (.cons le_T_api_Field_ID rfl (look_int 4) rfl (.cons le_T_api_Field_Name rfl (look_str (ByteArray.mk #[97])) rfl (.cons le_T_api_Field_Bits rfl (look_int 4) rfl (.nil))))) rfl rfl rfl ?_
  refine Sq.v (r_build (b := { f_ID := 5, f_Name := ByteArray.mk #[98], f_Bits := 4 : T_api_Field }) rfl bu123 zr123 (.cons le_T_api_Field_ID rfl (look_int 5) rfl (.cons le_T_api_Field_Name rfl (look_str (ByteArray.mk #[98])) rfl (.cons le_T_api_Field_Bits rfl (look_int 4) rfl (.nil))))) rfl rfl rfl ?_
  obtain ⟨z4, hz4, h⟩ := bind_some h
  refine Sq.v ((r_build (b := { f_ID := 6, f_Name := ByteArray.mk #[101], f_Bits := 8 : T_api_Field }) rfl bu123 zr123 (.cons le_T_api_Field_ID rfl (look_int 6) rfl (.cons le_T_api_Field_Name rfl (look_str (ByteArray.mk #[101])) rfl (.cons le_T_api_Field_Bits rfl (look_int 8) rfl (.nil))))).as (some_in hz4)) rfl rfl rfl ?_
  obtain ⟨z5, hz5, h⟩ := bind_some h
  refine Sq.v ((r_build (b := { f_ID := 7, f_Name := ByteArray.mk #[100], f_Bits := 32 : T_api_Field }) rfl bu123 zr123 (.cons le_T_api_Field_ID rfl (look_int 7) rfl (.cons le_T_api_Field_Name rfl (look_str (ByteArray.mk #[100])) rfl (.cons le_T_api_Field_Bits rfl (look_int 32) rfl (.nil))))).as (some_in hz5)) rfl rfl rfl ?_
  obtain ⟨z6, hz6, h⟩ := bind_some h
  refine Sq.v ((r_build (b := { f_ID := 8, f_Name := ByteArray.mk #[102], f_Bits := 12 : T_api_Field }) rfl bu123 zr123 (.cons le_T_api_Field_ID rfl (look_int 8) rfl (.cons le_T_api_Field_Name rfl (look_str (ByteArray.mk #[102])) rfl (.cons le_T_api_Field_Bits rfl (look_int 12) rfl (.nil))))).as (some_in hz6)) rfl rfl rfl ?_
  obtain ⟨z7, hz7, h⟩ := bind_some h
  refine Sq.v ((r_build (b := { f_ID := 9, f_Name := ByteArray.mk #[103], f_Bits := 4 : T_api_Field }) rfl bu123 zr123 (.cons le_T_api_Field_ID rfl (look_int 9) rfl (.cons le_T_api_Field_Name rfl (look_str (ByteArray.mk #[103])) rfl (.cons le_T_api_Field_Bits rfl (look_int 4) rfl (.nil))))).as (some_in hz7)) rfl rfl rfl ?_
  obtain ⟨z8, hz8, h⟩ := bind_some h
  refine Sq.v ((r_bsl (r := [z1, z2, z3, { f_ID := 4, f_Name := ByteArray.mk #[97], f_Bits := 4 : T_api_Field }, { f_ID := 5, f_Name := ByteArray.mk #[98], f_Bits := 4 : T_api_Field }, z4, z5, z6, z7]) Try.underlying24 ty123 zr123 rfl rfl (.cons (by simp) (look_t rfl) (.cons (by simp) (look_t rfl) (.cons (by simp) (look_t rfl) (.cons (by simp) (look_t rfl) (.cons (by simp) (look_t rfl) (.cons (by simp) (look_t rfl) (.cons (by simp) (look_t rfl) (.cons (by simp) (look_t rfl) (.cons (by simp) (look_t rfl) (.nil))))))))))).as (some_in hz8)) rfl rfl rfl ?_
  refine Sq.v (r_fa fd33_0 (look_t rfl)) rfl rfl rfl ?_
  obtain ⟨z9, hz9, h⟩ := bind_some h
  refine Sq.storeX (i := 2) ((Lens.id T_api_Schema).comp le_T_api_Schema_Fields) (v := (z8 : List T_api_Field)) (b' := (z9 : T_api_Schema)) ty24 (look_t rfl) (look_t rfl) rfl rfl (some_in hz9) (by rfl) ?_
  refine Sq.nil ?_
  refine To.next ?_
  refine Wp.seq ?_
  refine Wp.reg ?_
  refine Sq.v (r_bsl (r := ([4, 5, 6] : List Int)) Try.underlying64 ty3 zr3 rfl rfl (.cons (by simp) (look_int 4) (.cons (by simp) (look_int 5) (.cons (by simp) (look_int 6) (.nil))))) rfl rfl rfl ?_
  obtain ⟨z10, hz10, h⟩ := bind_some h
  refine Sq.v ((r_build (b := { f_ID := 1, f_Name := ByteArray.mk #[111, 110, 101], f_Fields := ([4, 5, 6] : List Int) : T_api_Header }) rfl bu125 zr125 (.cons le_T_api_Header_ID rfl (look_int 1) rfl (.cons le_T_api_Header_Name rfl (look_str (ByteArray.mk #[111, 110, 101])) rfl (.cons le_T_api_Header_Fields rfl (look_t rfl) rfl (.nil))))).as (some_in hz10)) rfl rfl rfl ?_
  refine Sq.v (r_bsl (r := ([7] : List Int)) Try.underlying64 ty3 zr3 rfl rfl (.cons (by simp) (look_int 7) (.nil))) rfl rfl rfl ?_
  obtain ⟨z11, hz11, h⟩ := bind_some h
  refine Sq.v ((r_build (b := { f_ID := 2, f_Name := ByteArray.mk #[116, 119, 111], f_Fields := ([7] : List Int) : T_api_Header }) rfl bu125 zr125 (.cons le_T_api_Header_ID rfl (look_int 2) rfl (.cons le_T_api_Header_Name rfl (look_str (ByteArray.mk #[116, 119, 111])) rfl (.cons le_T_api_Header_Fields rfl (look_t rfl) rfl (.nil))))).as (some_in hz11)) rfl rfl rfl ?_
  refine Sq.v (r_bsl (r := ([8, 9] : List Int)) Try.underlying64 ty3 zr3 rfl rfl (.cons (by simp) (look_int 8) (.cons (by simp) (look_int 9) (.nil)))) rfl rfl rfl ?_
  obtain ⟨z12, hz12, h⟩ := bind_some h
  refine Sq.v ((r_build (b := { f_ID := 3, f_Name := ByteArray.mk #[116, 104, 114, 101, 101], f_Fields := ([8, 9] : List Int) : T_api_Header }) rfl bu125 zr125 (.cons le_T_api_Header_ID rfl (look_int 3) rfl (.cons le_T_api_Header_Name rfl (look_str (ByteArray.mk #[116, 104, 114, 101, 101])) rfl (.cons le_T_api_Header_Fields rfl (look_t rfl) rfl (.nil))))).as (some_in hz12)) rfl rfl rfl ?_
  refine Sq.v (r_bsl (r := [z10, z11, z12]) Try.underlying25 ty125 zr125 rfl rfl (.cons (by simp) (look_t rfl) (.cons (by simp) (look_t rfl) (.cons (by simp) (look_t rfl) (.nil))))) rfl rfl rfl ?_
  refine Sq.v (r_fa fd33_1 (look_t rfl)) rfl rfl rfl ?_
  refine Sq.storeX (i := 2) ((Lens.id T_api_Schema).comp le_T_api_Schema_Headers) (v := ([z10, z11, z12] : List T_api_Header)) (b' := (({ z9 with f_Headers := [z10, z11, z12] } : T_api_Schema) : T_api_Schema)) ty25 (look_t rfl) (look_t rfl) rfl rfl rfl (by rfl) ?_
  refine Sq.nil ?_
  refine To.next ?_
  refine Wp.seq ?_
  refine Wp.reg ?_
  refine Sq.v (r_move (look_t rfl)) rfl rfl rfl ?_
  refine Sq.bring 5 rfl ?_
  obtain ⟨y3, hy3, h⟩ := bind_some h
  refine Sq.callO (Lin := [⟨some pp0, .var (y2.2 : T_mcase_Codes)⟩]) (Lr := [⟨none, .row 133 (([] : List T_api_Ref) : List T_api_Ref) 0⟩, ⟨none, .row 131 (([] : List T_api_Stage) : List T_api_Stage) 0⟩, ⟨some p2, .varX (({ z9 with f_Headers := [z10, z11, z12] } : T_api_Schema) : T_api_Schema) [(5, slv none ([] : List T_api_Stage).length 0), (7, slv none ([] : List T_api_Ref).length 0)]⟩, ⟨none, .row 133 (([] : List T_api_Ref) : List T_api_Ref) 0⟩, ⟨none, .row 131 (([] : List T_api_Stage) : List T_api_Stage) 0⟩, ⟨some p1, .var ((default : T_api_Schema) : T_api_Schema)⟩]) en50 (C_mcase_Codes_states hy3) ⟨look_t rfl, trivial⟩ rfl fun q3 => ?_
  refine Sq.v (r_move (look_t rfl)) rfl rfl rfl ?_
  refine Sq.bring 0 rfl ?_
  obtain ⟨y4, hy4, h⟩ := bind_some h
  refine Sq.callO (Lin := [⟨some pp0, .var (y3.2 : T_mcase_Codes)⟩]) (Lr := [⟨none, .row 133 (([] : List T_api_Ref) : List T_api_Ref) 0⟩, ⟨none, .row 131 (([] : List T_api_Stage) : List T_api_Stage) 0⟩, ⟨some p2, .varX (({ z9 with f_Headers := [z10, z11, z12] } : T_api_Schema) : T_api_Schema) [(5, slv none ([] : List T_api_Stage).length 0), (7, slv none ([] : List T_api_Ref).length 0)]⟩, ⟨none, .row 133 (([] : List T_api_Ref) : List T_api_Ref) 0⟩, ⟨none, .row 131 (([] : List T_api_Stage) : List T_api_Stage) 0⟩, ⟨some p1, .var ((default : T_api_Schema) : T_api_Schema)⟩]) en51 (C_mcase_Codes_actions hy4) ⟨look_t rfl, trivial⟩ rfl fun q4 => ?_
  refine Sq.v (r_move (look_t rfl)) rfl rfl rfl ?_
  refine Sq.bring 0 rfl ?_
  obtain ⟨y5, hy5, h⟩ := bind_some h
  refine Sq.callO (Lin := [⟨some pp0, .var (y4.2 : T_mcase_Codes)⟩]) (Lr := [⟨none, .row 133 (([] : List T_api_Ref) : List T_api_Ref) 0⟩, ⟨none, .row 131 (([] : List T_api_Stage) : List T_api_Stage) 0⟩, ⟨some p2, .varX (({ z9 with f_Headers := [z10, z11, z12] } : T_api_Schema) : T_api_Schema) [(5, slv none ([] : List T_api_Stage).length 0), (7, slv none ([] : List T_api_Ref).length 0)]⟩, ⟨none, .row 133 (([] : List T_api_Ref) : List T_api_Ref) 0⟩, ⟨none, .row 131 (([] : List T_api_Stage) : List T_api_Stage) 0⟩, ⟨some p1, .var ((default : T_api_Schema) : T_api_Schema)⟩]) en52 (C_mcase_Codes_tables hy5) ⟨look_t rfl, trivial⟩ rfl fun q5 => ?_
  refine Sq.v (r_fa fd33_2 (look_t rfl)) rfl rfl rfl ?_
  obtain ⟨z13, hz13, h⟩ := bind_some h
  refine Sq.storeX (i := 3) ((Lens.id T_api_Schema).comp le_T_api_Schema_States) (v := (y3.1 : List T_api_State)) (b' := (z13 : T_api_Schema)) ty26 (look_t rfl) (look_t rfl) rfl rfl (some_in hz13) (by rfl) ?_
  refine Sq.v (r_fa fd33_3 (look_t rfl)) rfl rfl rfl ?_
  refine Sq.storeX (i := 3) ((Lens.id T_api_Schema).comp le_T_api_Schema_Actions) (v := (y4.1 : List T_api_Action)) (b' := (({ z13 with f_Actions := y4.1 } : T_api_Schema) : T_api_Schema)) ty27 (look_t rfl) (look_t rfl) rfl rfl rfl (by rfl) ?_
  refine Sq.v (r_fa fd33_4 (look_t rfl)) rfl rfl rfl ?_
  obtain ⟨z14, hz14, h⟩ := bind_some h
  refine Sq.storeX (i := 3) ((Lens.id T_api_Schema).comp le_T_api_Schema_Tables) (v := (y5.1 : List T_api_Table)) (b' := (z14 : T_api_Schema)) ty28 (look_t rfl) (look_t rfl) rfl rfl (some_in hz14) (by rfl) ?_
  refine Sq.nil ?_
  refine To.next ?_
  refine Wp.seq ?_
  refine Wp.reg ?_
  refine Sq.v (r_move (look_t rfl)) rfl rfl rfl ?_
  refine Sq.v (r_fa fd33_4 (look_t rfl)) rfl rfl rfl ?_
  refine Sq.v (r_loadX (i := 3) ((Lens.id T_api_Schema).comp le_T_api_Schema_Tables) (r := z14.f_Tables) ty28 (look_t rfl) rfl rfl rfl (by rfl)) rfl rfl rfl ?_
  refine Sq.bring 0 rfl ?_
  obtain ⟨y6, hy6, h⟩ := bind_some h
  refine Sq.callO (Lin := [⟨some pp0, .var (y5.2 : T_mcase_Codes)⟩]) (Lr := [⟨none, .row 133 (([] : List T_api_Ref) : List T_api_Ref) 0⟩, ⟨none, .row 131 (([] : List T_api_Stage) : List T_api_Stage) 0⟩, ⟨some p2, .varX (z14 : T_api_Schema) [(5, slv none ([] : List T_api_Stage).length 0), (7, slv none ([] : List T_api_Ref).length 0)]⟩, ⟨none, .row 133 (([] : List T_api_Ref) : List T_api_Ref) 0⟩, ⟨none, .row 131 (([] : List T_api_Stage) : List T_api_Stage) 0⟩, ⟨some p1, .var ((default : T_api_Schema) : T_api_Schema)⟩]) en53 (C_mcase_Codes_roles hy6) ⟨look_t rfl, look_t rfl, trivial⟩ rfl fun q6 => ?_
  refine Sq.v (r_fa fd33_6 (look_t rfl)) rfl rfl rfl ?_
  refine Sq.storeX (i := 3) ((Lens.id T_api_Schema).comp le_T_api_Schema_Roles) (v := (y6.1 : List T_api_Role)) (b' := (({ z14 with f_Roles := y6.1 } : T_api_Schema) : T_api_Schema)) ty30 (look_t rfl) (look_t rfl) rfl rfl rfl (by rfl) ?_
  refine Sq.nil ?_
  refine To.next ?_
  refine Wp.seq ?_
  refine Wp.reg ?_
  refine Sq.v (r_build (b := { f_Table := 1, f_Header := 1 : T_api_Stage }) rfl bu131 zr131 (.cons le_T_api_Stage_Table rfl (look_int 1) rfl (.cons le_T_api_Stage_Header rfl (look_int 1) rfl (.nil)))) rfl rfl rfl ?_
  refine Sq.v (r_build (b := { f_Table := 2, f_Header := 2 : T_api_Stage }) rfl bu131 zr131 (.cons le_T_api_Stage_Table rfl (look_int 2) rfl (.cons le_T_api_Stage_Header rfl (look_int 2) rfl (.nil)))) rfl rfl rfl ?_
  refine Sq.v (r_build (b := ({ (default : T_api_Stage) with f_Table := 3 } : T_api_Stage)) rfl bu131 zr131 (.cons le_T_api_Stage_Table rfl (look_int 3) rfl (.nil))) rfl rfl rfl ?_
  refine Sq.v (r_build (b := { f_Table := 4, f_Header := 3 : T_api_Stage }) rfl bu131 zr131 (.cons le_T_api_Stage_Table rfl (look_int 4) rfl (.cons le_T_api_Stage_Header rfl (look_int 3) rfl (.nil)))) rfl rfl rfl ?_
  obtain ⟨z15, hz15, h⟩ := bind_some h
  refine Sq.bslN (α := T_api_Stage) (r0 := [{ f_Table := 1, f_Header := 1 : T_api_Stage }, { f_Table := 2, f_Header := 2 : T_api_Stage }, ({ (default : T_api_Stage) with f_Table := 3 } : T_api_Stage), { f_Table := 4, f_Header := 3 : T_api_Stage }]) (r := z15) Try.underlying29 ty131 zr131 rfl rfl (.cons (by simp) (look_t rfl) (.cons (by simp) (look_t rfl) (.cons (by simp) (look_t rfl) (.cons (by simp) (look_t rfl) (.nil))))) (some_in hz15) rfl fun key1 => ?_
  refine Sq.v (r_fa fd33_5 (look_t rfl)) rfl rfl rfl ?_
  refine Sq.storeH (i := 4) (γ := T_api_Stage) (b' := (({ ({ z14 with f_Roles := y6.1 } : T_api_Schema) with f_Stages := [] } : T_api_Schema) : T_api_Schema)) (os' := [(5, slv key1 z15.length 4), (7, slv none ([] : List T_api_Ref).length 0)]) ((Lens.id T_api_Schema).comp le_T_api_Schema_Stages) ty29 (look_t rfl) (look_t rfl) slv_one rfl rfl rfl rfl ?_
  refine Sq.nil ?_
  refine To.next ?_
  refine Wp.seq ?_
  refine Wp.seq ?_
  refine Wp.reg ?_
  refine Sq.v (r_move (look_t rfl)) rfl rfl rfl ?_
  refine Sq.bring 1 rfl ?_
  obtain ⟨y7, hy7, h⟩ := bind_some h
  refine Sq.callO (Lin := [⟨some pp0, .var (y6.2 : T_mcase_Codes)⟩]) (Lr := [⟨key1, .row 131 (z15 : List T_api_Stage) 4⟩, ⟨none, .row 133 (([] : List T_api_Ref) : List T_api_Ref) 0⟩, ⟨none, .row 131 (([] : List T_api_Stage) : List T_api_Stage) 0⟩, ⟨some p2, .varX (({ ({ z14 with f_Roles := y6.1 } : T_api_Schema) with f_Stages := [] } : T_api_Schema) : T_api_Schema) [(5, slv key1 z15.length 4), (7, slv none ([] : List T_api_Ref).length 0)]⟩, ⟨none, .row 133 (([] : List T_api_Ref) : List T_api_Ref) 0⟩, ⟨none, .row 131 (([] : List T_api_Stage) : List T_api_Stage) 0⟩, ⟨some p1, .var ((default : T_api_Schema) : T_api_Schema)⟩]) en54 (C_mcase_Codes_Bool hy7) ⟨look_t rfl, trivial⟩ rfl fun q7 => ?_
  refine Sq.nil ?_
  refine To.next ?_
  obtain ⟨m1, hm1, h⟩ := bind_some h
  refine Wp.condM (γ := (Option Nat × Nat)) (fun g1 => [(0, VP.eq (.pointer (some ⟨pp0, 0, none⟩))), (2, VP.eq (.pointer (some ⟨p1, 0, none⟩))), (3, VP.eq (.pointer (some ⟨p2, 0, none⟩))), (51, VP.of (y7.1))]) (fun g1 => [⟨some pp0, .var (y7.2 : T_mcase_Codes)⟩, ⟨g1.1, .row 131 (m1 : List T_api_Stage) g1.2⟩, ⟨none, .row 133 (([] : List T_api_Ref) : List T_api_Ref) 0⟩, ⟨none, .row 131 (([] : List T_api_Stage) : List T_api_Stage) 0⟩, ⟨some p2, .varX (({ ({ z14 with f_Roles := y6.1 } : T_api_Schema) with f_Stages := [] } : T_api_Schema) : T_api_Schema) [(5, slv g1.1 m1.length g1.2), (7, slv none ([] : List T_api_Ref).length 0)]⟩, ⟨none, .row 133 (([] : List T_api_Ref) : List T_api_Ref) 0⟩, ⟨none, .row 131 (([] : List T_api_Stage) : List T_api_Stage) 0⟩, ⟨some p1, .var ((default : T_api_Schema) : T_api_Schema)⟩]) (look_t rfl) (fun g1 => ?_) (fun hm hc => ?_) (fun hm hc => ?_)
  · clear hm1
    refine To.next ?_
    refine Wp.seq ?_
    refine Wp.seq ?_
    refine Wp.reg ?_
    refine Sq.v (r_move (look_t rfl)) rfl rfl rfl ?_
    refine Sq.bring 0 rfl ?_
    obtain ⟨y8, hy8, h⟩ := bind_some h
    refine Sq.callO (Lin := [⟨some pp0, .var (y7.2 : T_mcase_Codes)⟩]) (Lr := [⟨g1.1, .row 131 (m1 : List T_api_Stage) g1.2⟩, ⟨none, .row 133 (([] : List T_api_Ref) : List T_api_Ref) 0⟩, ⟨none, .row 131 (([] : List T_api_Stage) : List T_api_Stage) 0⟩, ⟨some p2, .varX (({ ({ z14 with f_Roles := y6.1 } : T_api_Schema) with f_Stages := [] } : T_api_Schema) : T_api_Schema) [(5, slv g1.1 m1.length g1.2), (7, slv none ([] : List T_api_Ref).length 0)]⟩, ⟨none, .row 133 (([] : List T_api_Ref) : List T_api_Ref) 0⟩, ⟨none, .row 131 (([] : List T_api_Stage) : List T_api_Stage) 0⟩, ⟨some p1, .var ((default : T_api_Schema) : T_api_Schema)⟩]) en54 (C_mcase_Codes_Bool hy8) ⟨look_t rfl, trivial⟩ rfl fun q8 => ?_
    refine Sq.nil ?_
    refine To.next ?_
    obtain ⟨m2, hm2, h⟩ := bind_some h
    refine Wp.condM (γ := (Option Nat × Nat)) (fun g2 => [(0, VP.eq (.pointer (some ⟨pp0, 0, none⟩))), (2, VP.eq (.pointer (some ⟨p1, 0, none⟩))), (3, VP.eq (.pointer (some ⟨p2, 0, none⟩))), (51, VP.of (y7.1)), (59, VP.of (y8.1))]) (fun g2 => [⟨some pp0, .var (y8.2 : T_mcase_Codes)⟩, ⟨g1.1, .row 131 (m1 : List T_api_Stage) g1.2⟩, ⟨none, .row 133 (([] : List T_api_Ref) : List T_api_Ref) 0⟩, ⟨none, .row 131 (([] : List T_api_Stage) : List T_api_Stage) 0⟩, ⟨some p2, .varX (m2.1 : T_api_Schema) [(5, slv g1.1 m1.length g1.2), (7, slv g2.1 m2.2.length g2.2)]⟩, ⟨g2.1, .row 133 (m2.2 : List T_api_Ref) g2.2⟩, ⟨none, .row 131 (([] : List T_api_Stage) : List T_api_Stage) 0⟩, ⟨some p1, .var ((default : T_api_Schema) : T_api_Schema)⟩]) (look_t rfl) (fun g2 => ?_) (fun hm hc => ?_) (fun hm hc => ?_)
    · clear hm2
      refine To.next ?_
      refine Wp.seq ?_
      refine Wp.seq ?_
      refine Wp.reg ?_
      refine Sq.v (r_move (look_t rfl)) rfl rfl rfl ?_
      refine Sq.bring 0 rfl ?_
      obtain ⟨y9, hy9, h⟩ := bind_some h
      refine Sq.callO (Lin := [⟨some pp0, .var (y8.2 : T_mcase_Codes)⟩]) (Lr := [⟨g1.1, .row 131 (m1 : List T_api_Stage) g1.2⟩, ⟨none, .row 133 (([] : List T_api_Ref) : List T_api_Ref) 0⟩, ⟨none, .row 131 (([] : List T_api_Stage) : List T_api_Stage) 0⟩, ⟨some p2, .varX (m2.1 : T_api_Schema) [(5, slv g1.1 m1.length g1.2), (7, slv g2.1 m2.2.length g2.2)]⟩, ⟨g2.1, .row 133 (m2.2 : List T_api_Ref) g2.2⟩, ⟨none, .row 131 (([] : List T_api_Stage) : List T_api_Stage) 0⟩, ⟨some p1, .var ((default : T_api_Schema) : T_api_Schema)⟩]) en54 (C_mcase_Codes_Bool hy9) ⟨look_t rfl, trivial⟩ rfl fun q9 => ?_
      refine Sq.v (r_move (look_t rfl)) rfl rfl rfl ?_
      refine Sq.g (fun hb => r_fa fd33_4 (look_t rfl)) rfl rfl rfl rfl rfl ?_
      refine Sq.g (fun hb => r_loadX (i := 4) ((Lens.id T_api_Schema).comp le_T_api_Schema_Tables) (r := m2.1.f_Tables) ty28 (look_tc rfl hb) rfl rfl rfl (by rfl)) rfl rfl rfl rfl rfl ?_
      obtain ⟨k1, hk1, h⟩ := bind_some h
      refine Sq.g (fun hb => r_ias (k := k1) Try.underlying28 ty136 (look_tc rfl hb) (look_int 2) (idx_some (condM_some hk1 hb))) rfl rfl rfl rfl rfl ?_
      refine Sq.g (fun hb => r_fap le_T_api_Table_Keys fd136_2 (look_tc rfl hb) rfl rfl) rfl rfl rfl rfl rfl ?_
      refine Sq.g (fun hb => r_loadp ty134 (look_tc rfl hb)) rfl rfl rfl rfl rfl ?_
      refine Sq.g (fun hb => r_len Try.underlying134 (look_tc rfl hb)) rfl rfl rfl rfl rfl ?_
      refine Sq.g (fun hb => r_eql (look_tc rfl hb) (look_int 3)) rfl rfl rfl rfl rfl ?_
      refine Sq.v (r_and (look_t rfl) (look_t rfl) (fun h => h)) rfl rfl rfl ?_
      refine Sq.nil ?_
      refine To.next ?_
      obtain ⟨m3, hm3, h⟩ := bind_some h
      refine Wp.condM (γ := (Option Nat × Nat)) (fun g3 => [(0, VP.eq (.pointer (some ⟨pp0, 0, none⟩))), (2, VP.eq (.pointer (some ⟨p1, 0, none⟩))), (3, VP.eq (.pointer (some ⟨p2, 0, none⟩))), (51, VP.of (y7.1)), (59, VP.of (y8.1)), (76, VP.of (y9.1 && ((((lget m2.1.f_Tables k1).f_Keys).length : Int) == 3)))]) (fun g3 => [⟨some pp0, .var (y9.2 : T_mcase_Codes)⟩, ⟨g1.1, .row 131 (m1 : List T_api_Stage) g1.2⟩, ⟨none, .row 133 (([] : List T_api_Ref) : List T_api_Ref) 0⟩, ⟨none, .row 131 (([] : List T_api_Stage) : List T_api_Stage) 0⟩, ⟨some p2, .varX (m3.1 : T_api_Schema) [(5, slv g1.1 m1.length g1.2), (7, slv g3.1 m3.2.length g3.2)]⟩, ⟨g3.1, .row 133 (m3.2 : List T_api_Ref) g3.2⟩, ⟨none, .row 131 (([] : List T_api_Stage) : List T_api_Stage) 0⟩, ⟨some p1, .var ((default : T_api_Schema) : T_api_Schema)⟩]) (look_t rfl) (fun g3 => ?_) (fun hm hc => ?_) (fun hm hc => ?_)
      · clear hm3
        refine To.next ?_
        refine Wp.seq ?_
        refine Wp.seq ?_
        refine Wp.reg ?_
        refine Sq.v (r_move (look_t rfl)) rfl rfl rfl ?_
        refine Sq.bring 0 rfl ?_
        obtain ⟨y10, hy10, h⟩ := bind_some h
        refine Sq.callO (Lin := [⟨some pp0, .var (y9.2 : T_mcase_Codes)⟩]) (Lr := [⟨g1.1, .row 131 (m1 : List T_api_Stage) g1.2⟩, ⟨none, .row 133 (([] : List T_api_Ref) : List T_api_Ref) 0⟩, ⟨none, .row 131 (([] : List T_api_Stage) : List T_api_Stage) 0⟩, ⟨some p2, .varX (m3.1 : T_api_Schema) [(5, slv g1.1 m1.length g1.2), (7, slv g3.1 m3.2.length g3.2)]⟩, ⟨g3.1, .row 133 (m3.2 : List T_api_Ref) g3.2⟩, ⟨none, .row 131 (([] : List T_api_Stage) : List T_api_Stage) 0⟩, ⟨some p1, .var ((default : T_api_Schema) : T_api_Schema)⟩]) en54 (C_mcase_Codes_Bool hy10) ⟨look_t rfl, trivial⟩ rfl fun q10 => ?_
        refine Sq.v (r_move (look_t rfl)) rfl rfl rfl ?_
        refine Sq.g (fun hb => r_fa fd33_4 (look_t rfl)) rfl rfl rfl rfl rfl ?_
        refine Sq.g (fun hb => r_loadX (i := 4) ((Lens.id T_api_Schema).comp le_T_api_Schema_Tables) (r := m3.1.f_Tables) ty28 (look_tc rfl hb) rfl rfl rfl (by rfl)) rfl rfl rfl rfl rfl ?_
        obtain ⟨k2, hk2, h⟩ := bind_some h
        refine Sq.g (fun hb => r_ias (k := k2) Try.underlying28 ty136 (look_tc rfl hb) (look_int 3) (idx_some (condM_some hk2 hb))) rfl rfl rfl rfl rfl ?_
        refine Sq.g (fun hb => r_fap le_T_api_Table_Keys fd136_2 (look_tc rfl hb) rfl rfl) rfl rfl rfl rfl rfl ?_
        refine Sq.g (fun hb => r_loadp ty134 (look_tc rfl hb)) rfl rfl rfl rfl rfl ?_
        refine Sq.g (fun hb => r_len Try.underlying134 (look_tc rfl hb)) rfl rfl rfl rfl rfl ?_
        refine Sq.g (fun hb => r_eql (look_tc rfl hb) (look_int 3)) rfl rfl rfl rfl rfl ?_
        refine Sq.v (r_and (look_t rfl) (look_t rfl) (fun h => h)) rfl rfl rfl ?_
        refine Sq.nil ?_
        refine To.next ?_
        obtain ⟨m4, hm4, h⟩ := bind_some h
        refine Wp.condM (γ := (Option Nat × Nat)) (fun g4 => [(0, VP.eq (.pointer (some ⟨pp0, 0, none⟩))), (2, VP.eq (.pointer (some ⟨p1, 0, none⟩))), (3, VP.eq (.pointer (some ⟨p2, 0, none⟩))), (51, VP.of (y7.1)), (59, VP.of (y8.1)), (76, VP.of (y9.1 && ((((lget m2.1.f_Tables k1).f_Keys).length : Int) == 3))), (93, VP.of (y10.1 && ((((lget m3.1.f_Tables k2).f_Keys).length : Int) == 3)))]) (fun g4 => [⟨some pp0, .var (y10.2 : T_mcase_Codes)⟩, ⟨g1.1, .row 131 (m1 : List T_api_Stage) g1.2⟩, ⟨none, .row 133 (([] : List T_api_Ref) : List T_api_Ref) 0⟩, ⟨none, .row 131 (([] : List T_api_Stage) : List T_api_Stage) 0⟩, ⟨some p2, .varX (m4.1 : T_api_Schema) [(5, slv g1.1 m1.length g1.2), (7, slv g4.1 m4.2.length g4.2)]⟩, ⟨g4.1, .row 133 (m4.2 : List T_api_Ref) g4.2⟩, ⟨none, .row 131 (([] : List T_api_Stage) : List T_api_Stage) 0⟩, ⟨some p1, .var ((default : T_api_Schema) : T_api_Schema)⟩]) (look_t rfl) (fun g4 => ?_) (fun hm hc => ?_) (fun hm hc => ?_)
        · clear hm4
          refine To.next ?_
          refine Wp.seq ?_
          refine Wp.reg ?_
          refine Sq.thaw (β := T_api_Schema) (γ := T_api_Stage) (b' := (({ m4.1 with f_Stages := m1 } : T_api_Schema) : T_api_Schema)) ((Lens.id T_api_Schema).comp le_T_api_Schema_Stages) 4 1 0 rfl rfl rfl rfl rfl rfl ?_
          refine Sq.thaw (β := T_api_Schema) (γ := T_api_Ref) (b' := (({ ({ m4.1 with f_Stages := m1 } : T_api_Schema) with f_Refs := m4.2 } : T_api_Schema) : T_api_Schema)) ((Lens.id T_api_Schema).comp le_T_api_Schema_Refs) 4 5 0 rfl rfl rfl rfl rfl rfl ?_
          refine Sq.fromX 4 rfl ?_
          obtain ⟨z16, hz16, h⟩ := bind_some h
          refine Sq.v ((r_load (i := 4) (Lens.id T_api_Schema) (r := ({ ({ m4.1 with f_Stages := m1 } : T_api_Schema) with f_Refs := m4.2 } : T_api_Schema)) ty33 (look_t rfl) rfl rfl rfl).as (some_in hz16)) rfl rfl rfl ?_
          refine Sq.store (i := 7) (Lens.id T_api_Schema) (v := (z16 : T_api_Schema)) (b' := (z16 : T_api_Schema)) ty33 (look_t rfl) (look_t rfl) rfl rfl rfl ?_
          refine Sq.nil ?_
          refine To.next ?_
          refine Wp.ret ?_
          refine To.bring 0 rfl ?_
          replace h := some_in h
          subst h
          exact To.endO1 () (.cons_cons _ (List.nil_sublist _)) rfl rfl (rvo_c (i := 7) ty33 rfl rfl)
        · have h := cond_t hc hm4
          refine Wp.reg ?_
          refine Sq.v (r_fa fd33_7 (look_t rfl)) rfl rfl rfl ?_
          refine Sq.v (r_loadH (i := 4) (q := 1) (β := T_api_Schema) (γ := T_api_Ref) ty31 (look_t rfl) rfl rfl) rfl rfl rfl ?_
          obtain ⟨z17, hz17, h⟩ := bind_some h
          refine Sq.v ((r_build (b := ({ (default : T_api_Ref) with f_Table := 4, f_Key := 1, f_ToTable := 1 } : T_api_Ref)) rfl bu133 zr133 (.cons le_T_api_Ref_Table rfl (look_int 4) rfl (.cons le_T_api_Ref_Key rfl (look_int 1) rfl (.cons le_T_api_Ref_ToTable rfl (look_int 1) rfl (.nil))))).as (some_in hz17)) rfl rfl rfl ?_
          obtain ⟨z18, hz18, h⟩ := bind_some h
          refine Sq.v ((r_build (b := ({ (default : T_api_Ref) with f_Table := 4, f_Action := 5, f_ToTable := 1 } : T_api_Ref)) rfl bu133 zr133 (.cons le_T_api_Ref_Table rfl (look_int 4) rfl (.cons le_T_api_Ref_Action rfl (look_int 5) rfl (.cons le_T_api_Ref_ToTable rfl (look_int 1) rfl (.nil))))).as (some_in hz18)) rfl rfl rfl ?_
          refine Sq.v (r_bsl (r := [z17, z18]) Try.underlying31 ty133 zr133 rfl rfl (.cons (by simp) (look_t rfl) (.cons (by simp) (look_t rfl) (.nil)))) rfl rfl rfl ?_
          obtain ⟨y11, hy11, h⟩ := bind_some h
          refine Sq.app (i := 5) Try.underlying31 ty133 zr133 (bytes := 48) (by kernel_rfl) (look_t rfl) rfl (look_t rfl) hy11 rfl fun key2 cap1 => ?_
          refine Sq.v (r_fa fd33_7 (look_t rfl)) rfl rfl rfl ?_
          refine Sq.storeH (i := 4) (γ := T_api_Ref) (b' := (({ m3.1 with f_Refs := [] } : T_api_Schema) : T_api_Schema)) (os' := [(5, slv g1.1 m1.length g1.2), (7, slv key2 y11.length cap1)]) ((Lens.id T_api_Schema).comp le_T_api_Schema_Refs) ty31 (look_t rfl) (look_t rfl) slv_one rfl rfl rfl rfl ?_
          refine Sq.nil ?_
          replace h := some_in h
          subst h
          exact To.meet 0 rfl (.same rfl (.same rfl (.same rfl (.same rfl (.same rfl (.same rfl (.same rfl .nil))))))) (hm (key2, cap1))
        · have h := cond_f hc hm4
          refine Wp.skip ?_
          replace h := some_in h
          subst h
          exact To.meet 0 rfl (.same rfl (.same rfl (.same rfl (.same rfl (.same rfl (.same rfl (.same rfl .nil))))))) (hm (g3.1, g3.2))
      · have h := cond_t hc hm3
        refine Wp.reg ?_
        refine Sq.v (r_fa fd33_7 (look_t rfl)) rfl rfl rfl ?_
        refine Sq.v (r_loadH (i := 4) (q := 1) (β := T_api_Schema) (γ := T_api_Ref) ty31 (look_t rfl) rfl rfl) rfl rfl rfl ?_
        obtain ⟨z19, hz19, h⟩ := bind_some h
        refine Sq.v ((r_build (b := ({ (default : T_api_Ref) with f_Table := 3, f_Key := 2, f_ToTable := 1 } : T_api_Ref)) rfl bu133 zr133 (.cons le_T_api_Ref_Table rfl (look_int 3) rfl (.cons le_T_api_Ref_Key rfl (look_int 2) rfl (.cons le_T_api_Ref_ToTable rfl (look_int 1) rfl (.nil))))).as (some_in hz19)) rfl rfl rfl ?_
        refine Sq.v (r_bsl (r := [z19]) Try.underlying31 ty133 zr133 rfl rfl (.cons (by simp) (look_t rfl) (.nil))) rfl rfl rfl ?_
        obtain ⟨y12, hy12, h⟩ := bind_some h
        refine Sq.app (i := 5) Try.underlying31 ty133 zr133 (bytes := 48) (by kernel_rfl) (look_t rfl) rfl (look_t rfl) hy12 rfl fun key3 cap2 => ?_
        refine Sq.v (r_fa fd33_7 (look_t rfl)) rfl rfl rfl ?_
        refine Sq.storeH (i := 4) (γ := T_api_Ref) (b' := (({ m2.1 with f_Refs := [] } : T_api_Schema) : T_api_Schema)) (os' := [(5, slv g1.1 m1.length g1.2), (7, slv key3 y12.length cap2)]) ((Lens.id T_api_Schema).comp le_T_api_Schema_Refs) ty31 (look_t rfl) (look_t rfl) slv_one rfl rfl rfl rfl ?_
        refine Sq.nil ?_
        replace h := some_in h
        subst h
        exact To.meet 0 rfl (.same rfl (.same rfl (.same rfl (.same rfl (.same rfl (.same rfl .nil)))))) (hm (key3, cap2))
      · have h := cond_f hc hm3
        refine Wp.skip ?_
        replace h := some_in h
        subst h
        exact To.meet 0 rfl (.same rfl (.same rfl (.same rfl (.same rfl (.same rfl (.same rfl .nil)))))) (hm (g2.1, g2.2))
    · have h := cond_t hc hm2
      refine Wp.reg ?_
      refine Sq.v (r_fa fd33_7 (look_t rfl)) rfl rfl rfl ?_
      refine Sq.v (r_loadH (i := 4) (q := 1) (β := T_api_Schema) (γ := T_api_Ref) ty31 (look_t rfl) rfl rfl) rfl rfl rfl ?_
      obtain ⟨z20, hz20, h⟩ := bind_some h
      refine Sq.v ((r_build (b := ({ (default : T_api_Ref) with f_Table := 2, f_Action := 4, f_ToTable := 1 } : T_api_Ref)) rfl bu133 zr133 (.cons le_T_api_Ref_Table rfl (look_int 2) rfl (.cons le_T_api_Ref_Action rfl (look_int 4) rfl (.cons le_T_api_Ref_ToTable rfl (look_int 1) rfl (.nil))))).as (some_in hz20)) rfl rfl rfl ?_
      refine Sq.v (r_bsl (r := [z20]) Try.underlying31 ty133 zr133 rfl rfl (.cons (by simp) (look_t rfl) (.nil))) rfl rfl rfl ?_
      obtain ⟨y13, hy13, h⟩ := bind_some h
      refine Sq.app (i := 5) Try.underlying31 ty133 zr133 (bytes := 48) (by kernel_rfl) (look_t rfl) rfl (look_t rfl) hy13 rfl fun key4 cap3 => ?_
      refine Sq.v (r_fa fd33_7 (look_t rfl)) rfl rfl rfl ?_
      refine Sq.storeH (i := 4) (γ := T_api_Ref) (b' := (({ ({ ({ z14 with f_Roles := y6.1 } : T_api_Schema) with f_Stages := [] } : T_api_Schema) with f_Refs := [] } : T_api_Schema) : T_api_Schema)) (os' := [(5, slv g1.1 m1.length g1.2), (7, slv key4 y13.length cap3)]) ((Lens.id T_api_Schema).comp le_T_api_Schema_Refs) ty31 (look_t rfl) (look_t rfl) slv_one rfl rfl rfl rfl ?_
      refine Sq.nil ?_
      replace h := some_in h
      subst h
      exact To.meet 0 rfl (.same rfl (.same rfl (.same rfl (.same rfl (.same rfl .nil))))) (hm (key4, cap3))
    · have h := cond_f hc hm2
      refine Wp.skip ?_
      replace h := some_in h
      subst h
      exact To.meet 0 rfl (.same rfl (.same rfl (.same rfl (.same rfl (.same rfl .nil))))) (hm (none, 0))
  · have h := cond_t hc hm1
    refine Wp.reg ?_
    refine Sq.v (r_fa fd33_5 (look_t rfl)) rfl rfl rfl ?_
    refine Sq.v (r_loadH (i := 4) (q := 0) (β := T_api_Schema) (γ := T_api_Stage) ty29 (look_t rfl) rfl rfl) rfl rfl rfl ?_
    refine Sq.v (r_build (b := ({ (default : T_api_Stage) with f_Table := 1 } : T_api_Stage)) rfl bu131 zr131 (.cons le_T_api_Stage_Table rfl (look_int 1) rfl (.nil))) rfl rfl rfl ?_
    refine Sq.v (r_bsl (r := [({ (default : T_api_Stage) with f_Table := 1 } : T_api_Stage)]) Try.underlying29 ty131 zr131 rfl rfl (.cons (by simp) (look_t rfl) (.nil))) rfl rfl rfl ?_
    obtain ⟨y14, hy14, h⟩ := bind_some h
    refine Sq.app (i := 1) Try.underlying29 ty131 zr131 (bytes := 16) (by kernel_rfl) (look_t rfl) rfl (look_t rfl) hy14 rfl fun key5 cap4 => ?_
    refine Sq.v (r_fa fd33_5 (look_t rfl)) rfl rfl rfl ?_
    refine Sq.storeH (i := 4) (γ := T_api_Stage) (b' := (({ ({ z14 with f_Roles := y6.1 } : T_api_Schema) with f_Stages := [] } : T_api_Schema) : T_api_Schema)) (os' := [(5, slv key5 y14.length cap4), (7, slv none ([] : List T_api_Ref).length 0)]) ((Lens.id T_api_Schema).comp le_T_api_Schema_Stages) ty29 (look_t rfl) (look_t rfl) slv_one rfl rfl rfl rfl ?_
    refine Sq.nil ?_
    replace h := some_in h
    subst h
    exact To.meet 0 rfl (.same rfl (.same rfl (.same rfl (.same rfl .nil)))) (hm (key5, cap4))
  · have h := cond_f hc hm1
    refine Wp.skip ?_
    replace h := some_in h
    subst h
    exact To.meet 0 rfl (.same rfl (.same rfl (.same rfl (.same rfl .nil)))) (hm (key1, 4))
end Go.Proofs.Ytodajdohokmjnaa
