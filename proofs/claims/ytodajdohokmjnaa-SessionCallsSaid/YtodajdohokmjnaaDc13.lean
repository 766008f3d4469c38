/-
  Printed by the decompiler (dec.py) out of the seat's translation. Each function meets its functional program. Conditions: none.
-/
import Derived.Test.YtodajdohokmjnaaDc6
import Derived.Test.YtodajdohokmjnaaDc8
namespace Go.Proofs.Ytodajdohokmjnaa
open Go Gv
set_option linter.unusedVariables false
set_option linter.unusedSimpArgs false
set_option maxRecDepth 100000
set_option maxHeartbeats 2000000 in
theorem C_mcase_Codes_tables {x0 : T_mcase_Codes} {pp0 : Nat} {r : (List T_api_Table) × T_mcase_Codes} (h : L_mcase_Codes_tables x0 = some r) : MeetsO Try.prog 52 [VP.eq (.pointer (some ⟨pp0, 0, none⟩))] [⟨some pp0, .var (x0 : T_mcase_Codes)⟩] (δ := Unit) (fun d => VP.of (r.1)) (fun d => [⟨some pp0, .var (r.2 : T_mcase_Codes)⟩]) := by
  unfold L_mcase_Codes_tables at h
  refine MeetsO.of Try.func52 rfl Try.ntmps52 rfl fun W A => ?_
  refine Wp.seq ?_
  refine Wp.reg ?_
  refine Sq.v (r_asg (look_nil (α := T_api_Table))) rfl rfl rfl ?_
  refine Sq.nil ?_
  refine To.next ?_
  refine Wp.seq ?_
  refine Wp.reg ?_
  obtain ⟨z1, hz1, h⟩ := bind_some h
  refine Sq.v ((r_build (b := { f_Name := ByteArray.mk #[97], f_Field := 4, f_Kind := 1 : T_api_Key }) rfl bu163 zr163 (.cons le_T_api_Key_Name rfl (look_str (ByteArray.mk #[97])) rfl (.cons le_T_api_Key_Field rfl (look_int 4) rfl (.cons le_T_api_Key_Kind rfl (look_int 1) rfl (.nil))))).as (some_in hz1)) rfl rfl rfl ?_
  refine Sq.v (r_bsl (r := [z1]) Try.underlying134 ty163 zr163 rfl rfl (.cons (by simp) (look_t rfl) (.nil))) rfl rfl rfl ?_
  refine Sq.v (r_bsl (r := ([1, 2, 4] : List Int)) Try.underlying64 ty3 zr3 rfl rfl (.cons (by simp) (look_int 1) (.cons (by simp) (look_int 2) (.cons (by simp) (look_int 4) (.nil))))) rfl rfl rfl ?_
  refine Sq.v (r_move (look_t rfl)) rfl rfl rfl ?_
  refine Sq.bring 0 rfl ?_
  obtain ⟨y1, hy1, h⟩ := bind_some h
  refine Sq.callO (Lin := [⟨some pp0, .var (x0 : T_mcase_Codes)⟩]) (Lr := []) en49 (C_mcase_Codes_Next hy1) ⟨look_t rfl, look_int 2, trivial⟩ rfl fun q1 => ?_
  refine Sq.v (r_add (look_int 1) (look_t rfl)) rfl rfl rfl ?_
  refine Sq.v (r_move (look_t rfl)) rfl rfl rfl ?_
  refine Sq.bring 0 rfl ?_
  obtain ⟨y2, hy2, h⟩ := bind_some h
  refine Sq.callO (Lin := [⟨some pp0, .var (y1.2 : T_mcase_Codes)⟩]) (Lr := []) en49 (C_mcase_Codes_Next hy2) ⟨look_t rfl, look_int 5, trivial⟩ rfl fun q2 => ?_
  refine Sq.v (r_add (look_int 2) (look_t rfl)) rfl rfl rfl ?_
  obtain ⟨z2, hz2, h⟩ := bind_some h
  refine Sq.v ((r_build (b := ({ (default : T_api_Table) with f_ID := 1, f_Name := ByteArray.mk #[112, 111, 114, 116, 115], f_Keys := [z1], f_Actions := ([1, 2, 4] : List Int), f_Default := w64 (1 + y1.1), f_Size := w64 (2 + y2.1) } : T_api_Table)) rfl bu136 zr136 (.cons le_T_api_Table_ID rfl (look_int 1) rfl (.cons le_T_api_Table_Name rfl (look_str (ByteArray.mk #[112, 111, 114, 116, 115])) rfl (.cons le_T_api_Table_Keys rfl (look_t rfl) rfl (.cons le_T_api_Table_Actions rfl (look_t rfl) rfl (.cons le_T_api_Table_Default rfl (look_t rfl) rfl (.cons le_T_api_Table_Size rfl (look_t rfl) rfl (.nil)))))))).as (some_in hz2)) rfl rfl rfl ?_
  refine Sq.alloc zr136 rfl fun p1 => ?_
  refine Sq.store (i := 0) (Lens.id T_api_Table) (v := (z2 : T_api_Table)) (b' := (z2 : T_api_Table)) ty136 (look_t rfl) (look_t rfl) rfl rfl rfl ?_
  refine Sq.nil ?_
  refine To.next ?_
  refine Wp.seq ?_
  refine Wp.reg ?_
  obtain ⟨z3, hz3, h⟩ := bind_some h
  refine Sq.v ((r_build (b := { f_Name := ByteArray.mk #[100], f_Field := 7, f_Kind := 2 : T_api_Key }) rfl bu163 zr163 (.cons le_T_api_Key_Name rfl (look_str (ByteArray.mk #[100])) rfl (.cons le_T_api_Key_Field rfl (look_int 7) rfl (.cons le_T_api_Key_Kind rfl (look_int 2) rfl (.nil))))).as (some_in hz3)) rfl rfl rfl ?_
  refine Sq.bslO (α := T_api_Key) (r := [z3]) Try.underlying134 ty163 zr163 rfl rfl (.cons (by simp) (look_t rfl) (.nil)) rfl fun key1 => ?_
  refine Sq.v (r_bsl (r := ([1, 2, 3, 4] : List Int)) Try.underlying64 ty3 zr3 rfl rfl (.cons (by simp) (look_int 1) (.cons (by simp) (look_int 2) (.cons (by simp) (look_int 3) (.cons (by simp) (look_int 4) (.nil)))))) rfl rfl rfl ?_
  refine Sq.v (r_move (look_t rfl)) rfl rfl rfl ?_
  refine Sq.bring 2 rfl ?_
  obtain ⟨y3, hy3, h⟩ := bind_some h
  refine Sq.callO (Lin := [⟨some pp0, .var (y2.2 : T_mcase_Codes)⟩]) (Lr := [⟨key1, .row 163 ([z3] : List T_api_Key) 1⟩, ⟨some p1, .var (z2 : T_api_Table)⟩]) en49 (C_mcase_Codes_Next hy3) ⟨look_t rfl, look_int 6, trivial⟩ rfl fun q3 => ?_
  refine Sq.v (r_add (look_int 3) (look_t rfl)) rfl rfl rfl ?_
  refine Sq.v (r_buildX (b := ({ (default : T_api_Table) with f_ID := 2, f_Name := ByteArray.mk #[114, 111, 117, 116, 101, 115], f_Actions := ([1, 2, 3, 4] : List Int), f_Default := 2, f_Size := w64 (3 + y3.1) } : T_api_Table)) [] zh136_n rfl bu136 zr136 (.cons le_T_api_Table_ID rfl (look_int 2) rfl (by rfl) (.cons le_T_api_Table_Name rfl (look_str (ByteArray.mk #[114, 111, 117, 116, 101, 115])) rfl (by rfl) (.hole le_T_api_Table_Keys rfl (look_t rfl) slv_one rfl rfl (.cons le_T_api_Table_Actions rfl (look_t rfl) rfl (by rfl) (.cons le_T_api_Table_Default rfl (look_int 2) rfl (by rfl) (.cons le_T_api_Table_Size rfl (look_t rfl) rfl (by rfl) (.nil)))))))) rfl rfl rfl ?_
  refine Sq.allocX (z := (default : T_api_Table)) [2] zh136_2 zr136 rfl fun p2 => ?_
  refine Sq.own (α := T_api_Key) 163 ?_
  refine Sq.storeW (i := 1) ty136 (look_t rfl) (look_t rfl) rfl ?_
  refine Sq.nil ?_
  refine To.next ?_
  refine Wp.seq ?_
  refine Wp.seq ?_
  refine Wp.reg ?_
  refine Sq.v (r_move (look_t rfl)) rfl rfl rfl ?_
  refine Sq.bring 2 rfl ?_
  obtain ⟨y4, hy4, h⟩ := bind_some h
  refine Sq.callO (Lin := [⟨some pp0, .var (y3.2 : T_mcase_Codes)⟩]) (Lr := [⟨none, .row 163 (([] : List T_api_Key) : List T_api_Key) 0⟩, ⟨some p2, .varX (({ (default : T_api_Table) with f_ID := 2, f_Name := ByteArray.mk #[114, 111, 117, 116, 101, 115], f_Actions := ([1, 2, 3, 4] : List Int), f_Default := 2, f_Size := w64 (3 + y3.1) } : T_api_Table) : T_api_Table) [(2, slv key1 [z3].length 1)]⟩, ⟨key1, .row 163 ([z3] : List T_api_Key) 1⟩, ⟨some p1, .var (z2 : T_api_Table)⟩]) en54 (C_mcase_Codes_Bool hy4) ⟨look_t rfl, trivial⟩ rfl fun q4 => ?_
  refine Sq.nil ?_
  refine To.next ?_
  obtain ⟨m1, hm1, h⟩ := bind_some h
  refine Wp.condM (γ := (Option Nat × Nat)) (fun g1 => [(0, VP.eq (.pointer (some ⟨pp0, 0, none⟩))), (2, VP.of ([] : List T_api_Table)), (3, VP.eq (.pointer (some ⟨p1, 0, none⟩))), (4, VP.eq (.pointer (some ⟨p2, 0, none⟩))), (28, VP.of (y4.1))]) (fun g1 => [⟨some pp0, .var (y4.2 : T_mcase_Codes)⟩, ⟨none, .row 163 (([] : List T_api_Key) : List T_api_Key) 0⟩, ⟨some p2, .varX (m1.1 : T_api_Table) [(2, slv g1.1 m1.2.length g1.2)]⟩, ⟨g1.1, .row 163 (m1.2 : List T_api_Key) g1.2⟩, ⟨some p1, .var (z2 : T_api_Table)⟩]) (look_t rfl) (fun g1 => ?_) (fun hm hc => ?_) (fun hm hc => ?_)
  · clear hm1
    refine To.next ?_
    refine Wp.seq ?_
    refine Wp.reg ?_
    obtain ⟨z4, hz4, h⟩ := bind_some h
    refine Sq.v ((r_build (b := { f_Name := ByteArray.mk #[101], f_Field := 6, f_Kind := 3 : T_api_Key }) rfl bu163 zr163 (.cons le_T_api_Key_Name rfl (look_str (ByteArray.mk #[101])) rfl (.cons le_T_api_Key_Field rfl (look_int 6) rfl (.cons le_T_api_Key_Kind rfl (look_int 3) rfl (.nil))))).as (some_in hz4)) rfl rfl rfl ?_
    obtain ⟨z5, hz5, h⟩ := bind_some h
    refine Sq.v ((r_build (b := { f_Name := ByteArray.mk #[97], f_Field := 4, f_Kind := 3 : T_api_Key }) rfl bu163 zr163 (.cons le_T_api_Key_Name rfl (look_str (ByteArray.mk #[97])) rfl (.cons le_T_api_Key_Field rfl (look_int 4) rfl (.cons le_T_api_Key_Kind rfl (look_int 3) rfl (.nil))))).as (some_in hz5)) rfl rfl rfl ?_
    refine Sq.bslO (α := T_api_Key) (r := [z4, z5]) Try.underlying134 ty163 zr163 rfl rfl (.cons (by simp) (look_t rfl) (.cons (by simp) (look_t rfl) (.nil))) rfl fun key2 => ?_
    refine Sq.v (r_bsl (r := ([1, 2, 3, 5, 6] : List Int)) Try.underlying64 ty3 zr3 rfl rfl (.cons (by simp) (look_int 1) (.cons (by simp) (look_int 2) (.cons (by simp) (look_int 3) (.cons (by simp) (look_int 5) (.cons (by simp) (look_int 6) (.nil))))))) rfl rfl rfl ?_
    refine Sq.v (r_move (look_t rfl)) rfl rfl rfl ?_
    refine Sq.bring 1 rfl ?_
    obtain ⟨y5, hy5, h⟩ := bind_some h
    refine Sq.callO (Lin := [⟨some pp0, .var (y4.2 : T_mcase_Codes)⟩]) (Lr := [⟨key2, .row 163 ([z4, z5] : List T_api_Key) 2⟩, ⟨none, .row 163 (([] : List T_api_Key) : List T_api_Key) 0⟩, ⟨some p2, .varX (m1.1 : T_api_Table) [(2, slv g1.1 m1.2.length g1.2)]⟩, ⟨g1.1, .row 163 (m1.2 : List T_api_Key) g1.2⟩, ⟨some p1, .var (z2 : T_api_Table)⟩]) en49 (C_mcase_Codes_Next hy5) ⟨look_t rfl, look_int 6, trivial⟩ rfl fun q5 => ?_
    refine Sq.v (r_add (look_int 4) (look_t rfl)) rfl rfl rfl ?_
    refine Sq.v (r_buildX (b := ({ (default : T_api_Table) with f_ID := 3, f_Name := ByteArray.mk #[97, 99, 108], f_Actions := ([1, 2, 3, 5, 6] : List Int), f_Default := 1, f_Size := w64 (4 + y5.1) } : T_api_Table)) [] zh136_n rfl bu136 zr136 (.cons le_T_api_Table_ID rfl (look_int 3) rfl (by rfl) (.cons le_T_api_Table_Name rfl (look_str (ByteArray.mk #[97, 99, 108])) rfl (by rfl) (.hole le_T_api_Table_Keys rfl (look_t rfl) slv_one rfl rfl (.cons le_T_api_Table_Actions rfl (look_t rfl) rfl (by rfl) (.cons le_T_api_Table_Default rfl (look_int 1) rfl (by rfl) (.cons le_T_api_Table_Size rfl (look_t rfl) rfl (by rfl) (.nil)))))))) rfl rfl rfl ?_
    refine Sq.allocX (z := (default : T_api_Table)) [2] zh136_2 zr136 rfl fun p3 => ?_
    refine Sq.own (α := T_api_Key) 163 ?_
    refine Sq.storeW (i := 1) ty136 (look_t rfl) (look_t rfl) rfl ?_
    refine Sq.nil ?_
    refine To.next ?_
    refine Wp.seq ?_
    refine Wp.seq ?_
    refine Wp.reg ?_
    refine Sq.v (r_move (look_t rfl)) rfl rfl rfl ?_
    refine Sq.bring 2 rfl ?_
    obtain ⟨y6, hy6, h⟩ := bind_some h
    refine Sq.callO (Lin := [⟨some pp0, .var (y5.2 : T_mcase_Codes)⟩]) (Lr := [⟨none, .row 163 (([] : List T_api_Key) : List T_api_Key) 0⟩, ⟨some p3, .varX (({ (default : T_api_Table) with f_ID := 3, f_Name := ByteArray.mk #[97, 99, 108], f_Actions := ([1, 2, 3, 5, 6] : List Int), f_Default := 1, f_Size := w64 (4 + y5.1) } : T_api_Table) : T_api_Table) [(2, slv key2 [z4, z5].length 2)]⟩, ⟨key2, .row 163 ([z4, z5] : List T_api_Key) 2⟩, ⟨none, .row 163 (([] : List T_api_Key) : List T_api_Key) 0⟩, ⟨some p2, .varX (m1.1 : T_api_Table) [(2, slv g1.1 m1.2.length g1.2)]⟩, ⟨g1.1, .row 163 (m1.2 : List T_api_Key) g1.2⟩, ⟨some p1, .var (z2 : T_api_Table)⟩]) en54 (C_mcase_Codes_Bool hy6) ⟨look_t rfl, trivial⟩ rfl fun q6 => ?_
    refine Sq.nil ?_
    refine To.next ?_
    obtain ⟨m2, hm2, h⟩ := bind_some h
    refine Wp.condM (γ := (Option Nat × Nat)) (fun g2 => [(0, VP.eq (.pointer (some ⟨pp0, 0, none⟩))), (2, VP.of ([] : List T_api_Table)), (3, VP.eq (.pointer (some ⟨p1, 0, none⟩))), (4, VP.eq (.pointer (some ⟨p2, 0, none⟩))), (5, VP.eq (.pointer (some ⟨p3, 0, none⟩))), (28, VP.of (y4.1)), (44, VP.of (y6.1))]) (fun g2 => [⟨some pp0, .var (y6.2 : T_mcase_Codes)⟩, ⟨none, .row 163 (([] : List T_api_Key) : List T_api_Key) 0⟩, ⟨some p3, .varX (m2.1 : T_api_Table) [(2, slv g2.1 m2.2.length g2.2)]⟩, ⟨g2.1, .row 163 (m2.2 : List T_api_Key) g2.2⟩, ⟨none, .row 163 (([] : List T_api_Key) : List T_api_Key) 0⟩, ⟨some p2, .varX (m1.1 : T_api_Table) [(2, slv g1.1 m1.2.length g1.2)]⟩, ⟨g1.1, .row 163 (m1.2 : List T_api_Key) g1.2⟩, ⟨some p1, .var (z2 : T_api_Table)⟩]) (look_t rfl) (fun g2 => ?_) (fun hm hc => ?_) (fun hm hc => ?_)
    · clear hm2
      refine To.next ?_
      refine Wp.seq ?_
      refine Wp.reg ?_
      obtain ⟨z6, hz6, h⟩ := bind_some h
      refine Sq.v ((r_build (b := { f_Name := ByteArray.mk #[102], f_Field := 8, f_Kind := 4 : T_api_Key }) rfl bu163 zr163 (.cons le_T_api_Key_Name rfl (look_str (ByteArray.mk #[102])) rfl (.cons le_T_api_Key_Field rfl (look_int 8) rfl (.cons le_T_api_Key_Kind rfl (look_int 4) rfl (.nil))))).as (some_in hz6)) rfl rfl rfl ?_
      refine Sq.bslO (α := T_api_Key) (r := [z6]) Try.underlying134 ty163 zr163 rfl rfl (.cons (by simp) (look_t rfl) (.nil)) rfl fun key3 => ?_
      refine Sq.v (r_bsl (r := ([1, 3, 5] : List Int)) Try.underlying64 ty3 zr3 rfl rfl (.cons (by simp) (look_int 1) (.cons (by simp) (look_int 3) (.cons (by simp) (look_int 5) (.nil))))) rfl rfl rfl ?_
      refine Sq.v (r_build (b := ({ (default : T_api_Value) with f_Lo := 7#64 } : T_api_Value)) rfl bu47 zr47 (.cons le_T_api_Value_Lo rfl (look_u64 7 rfl) rfl (.nil))) rfl rfl rfl ?_
      refine Sq.v (r_bsl (r := [({ (default : T_api_Value) with f_Lo := 7#64 } : T_api_Value)]) Try.underlying72 ty47 zr47 rfl rfl (.cons (by simp) (look_t rfl) (.nil))) rfl rfl rfl ?_
      refine Sq.v (r_move (look_t rfl)) rfl rfl rfl ?_
      refine Sq.bring 1 rfl ?_
      obtain ⟨y7, hy7, h⟩ := bind_some h
      refine Sq.callO (Lin := [⟨some pp0, .var (y6.2 : T_mcase_Codes)⟩]) (Lr := [⟨key3, .row 163 ([z6] : List T_api_Key) 1⟩, ⟨none, .row 163 (([] : List T_api_Key) : List T_api_Key) 0⟩, ⟨some p3, .varX (m2.1 : T_api_Table) [(2, slv g2.1 m2.2.length g2.2)]⟩, ⟨g2.1, .row 163 (m2.2 : List T_api_Key) g2.2⟩, ⟨none, .row 163 (([] : List T_api_Key) : List T_api_Key) 0⟩, ⟨some p2, .varX (m1.1 : T_api_Table) [(2, slv g1.1 m1.2.length g1.2)]⟩, ⟨g1.1, .row 163 (m1.2 : List T_api_Key) g1.2⟩, ⟨some p1, .var (z2 : T_api_Table)⟩]) en49 (C_mcase_Codes_Next hy7) ⟨look_t rfl, look_int 5, trivial⟩ rfl fun q7 => ?_
      refine Sq.v (r_add (look_int 3) (look_t rfl)) rfl rfl rfl ?_
      refine Sq.v (r_buildX (b := ({ (default : T_api_Table) with f_ID := 4, f_Name := ByteArray.mk #[115, 112, 97, 110, 115], f_Actions := ([1, 3, 5] : List Int), f_Default := 3, f_DefaultArgs := [({ (default : T_api_Value) with f_Lo := 7#64 } : T_api_Value)], f_Size := w64 (3 + y7.1) } : T_api_Table)) [] zh136_n rfl bu136 zr136 (.cons le_T_api_Table_ID rfl (look_int 4) rfl (by rfl) (.cons le_T_api_Table_Name rfl (look_str (ByteArray.mk #[115, 112, 97, 110, 115])) rfl (by rfl) (.hole le_T_api_Table_Keys rfl (look_t rfl) slv_one rfl rfl (.cons le_T_api_Table_Actions rfl (look_t rfl) rfl (by rfl) (.cons le_T_api_Table_Default rfl (look_int 3) rfl (by rfl) (.cons le_T_api_Table_DefaultArgs rfl (look_t rfl) rfl (by rfl) (.cons le_T_api_Table_Size rfl (look_t rfl) rfl (by rfl) (.nil))))))))) rfl rfl rfl ?_
      refine Sq.allocX (z := (default : T_api_Table)) [2] zh136_2 zr136 rfl fun p4 => ?_
      refine Sq.own (α := T_api_Key) 163 ?_
      refine Sq.storeW (i := 1) ty136 (look_t rfl) (look_t rfl) rfl ?_
      refine Sq.nil ?_
      refine To.next ?_
      refine Wp.seq ?_
      refine Wp.seq ?_
      refine Wp.reg ?_
      refine Sq.v (r_move (look_t rfl)) rfl rfl rfl ?_
      refine Sq.bring 2 rfl ?_
      obtain ⟨y8, hy8, h⟩ := bind_some h
      refine Sq.callO (Lin := [⟨some pp0, .var (y7.2 : T_mcase_Codes)⟩]) (Lr := [⟨none, .row 163 (([] : List T_api_Key) : List T_api_Key) 0⟩, ⟨some p4, .varX (({ (default : T_api_Table) with f_ID := 4, f_Name := ByteArray.mk #[115, 112, 97, 110, 115], f_Actions := ([1, 3, 5] : List Int), f_Default := 3, f_DefaultArgs := [({ (default : T_api_Value) with f_Lo := 7#64 } : T_api_Value)], f_Size := w64 (3 + y7.1) } : T_api_Table) : T_api_Table) [(2, slv key3 [z6].length 1)]⟩, ⟨key3, .row 163 ([z6] : List T_api_Key) 1⟩, ⟨none, .row 163 (([] : List T_api_Key) : List T_api_Key) 0⟩, ⟨some p3, .varX (m2.1 : T_api_Table) [(2, slv g2.1 m2.2.length g2.2)]⟩, ⟨g2.1, .row 163 (m2.2 : List T_api_Key) g2.2⟩, ⟨none, .row 163 (([] : List T_api_Key) : List T_api_Key) 0⟩, ⟨some p2, .varX (m1.1 : T_api_Table) [(2, slv g1.1 m1.2.length g1.2)]⟩, ⟨g1.1, .row 163 (m1.2 : List T_api_Key) g1.2⟩, ⟨some p1, .var (z2 : T_api_Table)⟩]) en54 (C_mcase_Codes_Bool hy8) ⟨look_t rfl, trivial⟩ rfl fun q8 => ?_
      refine Sq.nil ?_
      refine To.next ?_
      obtain ⟨m3, hm3, h⟩ := bind_some h
      refine Wp.condM (γ := (Option Nat × Nat)) (fun g3 => [(0, VP.eq (.pointer (some ⟨pp0, 0, none⟩))), (2, VP.of ([] : List T_api_Table)), (3, VP.eq (.pointer (some ⟨p1, 0, none⟩))), (4, VP.eq (.pointer (some ⟨p2, 0, none⟩))), (5, VP.eq (.pointer (some ⟨p3, 0, none⟩))), (6, VP.eq (.pointer (some ⟨p4, 0, none⟩))), (28, VP.of (y4.1)), (44, VP.of (y6.1)), (61, VP.of (y8.1))]) (fun g3 => [⟨some pp0, .var (y8.2 : T_mcase_Codes)⟩, ⟨none, .row 163 (([] : List T_api_Key) : List T_api_Key) 0⟩, ⟨some p4, .varX (m3.1 : T_api_Table) [(2, slv g3.1 m3.2.length g3.2)]⟩, ⟨g3.1, .row 163 (m3.2 : List T_api_Key) g3.2⟩, ⟨none, .row 163 (([] : List T_api_Key) : List T_api_Key) 0⟩, ⟨some p3, .varX (m2.1 : T_api_Table) [(2, slv g2.1 m2.2.length g2.2)]⟩, ⟨g2.1, .row 163 (m2.2 : List T_api_Key) g2.2⟩, ⟨none, .row 163 (([] : List T_api_Key) : List T_api_Key) 0⟩, ⟨some p2, .varX (m1.1 : T_api_Table) [(2, slv g1.1 m1.2.length g1.2)]⟩, ⟨g1.1, .row 163 (m1.2 : List T_api_Key) g1.2⟩, ⟨some p1, .var (z2 : T_api_Table)⟩]) (look_t rfl) (fun g3 => ?_) (fun hm hc => ?_) (fun hm hc => ?_)
      · clear hm3
        refine To.next ?_
        refine Wp.seq ?_
        refine Wp.reg ?_
        refine Sq.v (r_load (i := 10) (Lens.id T_api_Table) (r := z2) ty136 (look_t rfl) rfl rfl rfl) rfl rfl rfl ?_
        refine Sq.thaw (β := T_api_Table) (γ := T_api_Key) (b' := (({ m1.1 with f_Keys := m1.2 } : T_api_Table) : T_api_Table)) ((Lens.id T_api_Table).comp le_T_api_Table_Keys) 8 9 0 rfl rfl rfl rfl rfl rfl ?_
        refine Sq.fromX 8 rfl ?_
        refine Sq.v (r_load (i := 8) (Lens.id T_api_Table) (r := ({ m1.1 with f_Keys := m1.2 } : T_api_Table)) ty136 (look_t rfl) rfl rfl rfl) rfl rfl rfl ?_
        refine Sq.thaw (β := T_api_Table) (γ := T_api_Key) (b' := (({ m2.1 with f_Keys := m2.2 } : T_api_Table) : T_api_Table)) ((Lens.id T_api_Table).comp le_T_api_Table_Keys) 5 6 0 rfl rfl rfl rfl rfl rfl ?_
        refine Sq.fromX 5 rfl ?_
        refine Sq.v (r_load (i := 5) (Lens.id T_api_Table) (r := ({ m2.1 with f_Keys := m2.2 } : T_api_Table)) ty136 (look_t rfl) rfl rfl rfl) rfl rfl rfl ?_
        refine Sq.thaw (β := T_api_Table) (γ := T_api_Key) (b' := (({ m3.1 with f_Keys := m3.2 } : T_api_Table) : T_api_Table)) ((Lens.id T_api_Table).comp le_T_api_Table_Keys) 2 3 0 rfl rfl rfl rfl rfl rfl ?_
        refine Sq.fromX 2 rfl ?_
        refine Sq.v (r_load (i := 2) (Lens.id T_api_Table) (r := ({ m3.1 with f_Keys := m3.2 } : T_api_Table)) ty136 (look_t rfl) rfl rfl rfl) rfl rfl rfl ?_
        obtain ⟨z7, hz7, h⟩ := bind_some h
        refine Sq.bslN (α := T_api_Table) (r0 := [z2, ({ m1.1 with f_Keys := m1.2 } : T_api_Table), ({ m2.1 with f_Keys := m2.2 } : T_api_Table), ({ m3.1 with f_Keys := m3.2 } : T_api_Table)]) (r := z7) Try.underlying28 ty136 zr136 rfl rfl (.cons (by simp) (look_t rfl) (.cons (by simp) (look_t rfl) (.cons (by simp) (look_t rfl) (.cons (by simp) (look_t rfl) (.nil))))) (some_in hz7) rfl fun key4 => ?_
        refine Sq.v (r_asg (look_t rfl)) rfl rfl rfl ?_
        refine Sq.nil ?_
        refine To.next ?_
        refine Wp.seq ?_
        refine Wp.reg ?_
        obtain ⟨z8, hz8, h⟩ := bind_some h
        refine Sq.v ((r_bsl (r := [ByteArray.mk #[], ByteArray.mk #[97, 32, 33, 61, 32, 48], ByteArray.mk #[97, 32, 60, 32, 49, 52, 32, 38, 38, 32, 97, 32, 33, 61, 32, 51]]) Try.underlying203 ty9 zr9 rfl rfl (.cons (by simp) (look_str (ByteArray.mk #[])) (.cons (by simp) (look_str (ByteArray.mk #[97, 32, 33, 61, 32, 48])) (.cons (by simp) (look_str (ByteArray.mk #[97, 32, 60, 32, 49, 52, 32, 38, 38, 32, 97, 32, 33, 61, 32, 51])) (.nil))))).as (some_in hz8)) rfl rfl rfl ?_
        obtain ⟨z9, hz9, h⟩ := bind_some h
        refine Sq.v ((r_bsl (r := [ByteArray.mk #[], ByteArray.mk #[100, 58, 58, 112, 114, 101, 102, 105, 120, 95, 108, 101, 110, 103, 116, 104, 32, 62, 61, 32, 56], ByteArray.mk #[100, 58, 58, 112, 114, 101, 102, 105, 120, 95, 108, 101, 110, 103, 116, 104, 32, 61, 61, 32, 51, 50, 32, 45, 62, 32, 100, 58, 58, 118, 97, 108, 117, 101, 32, 62, 32, 48, 120, 102, 102]]) Try.underlying203 ty9 zr9 rfl rfl (.cons (by simp) (look_str (ByteArray.mk #[])) (.cons (by simp) (look_str (ByteArray.mk #[100, 58, 58, 112, 114, 101, 102, 105, 120, 95, 108, 101, 110, 103, 116, 104, 32, 62, 61, 32, 56])) (.cons (by simp) (look_str (ByteArray.mk #[100, 58, 58, 112, 114, 101, 102, 105, 120, 95, 108, 101, 110, 103, 116, 104, 32, 61, 61, 32, 51, 50, 32, 45, 62, 32, 100, 58, 58, 118, 97, 108, 117, 101, 32, 62, 32, 48, 120, 102, 102])) (.nil))))).as (some_in hz9)) rfl rfl rfl ?_
        obtain ⟨z10, hz10, h⟩ := bind_some h
        refine Sq.v ((r_bsl (r := [ByteArray.mk #[], ByteArray.mk #[112, 114, 105, 111, 114, 105, 116, 121, 32, 60, 32, 49, 48, 48, 32, 38, 38, 32, 40, 101, 58, 58, 109, 97, 115, 107, 32, 33, 61, 32, 48, 32, 124, 124, 32, 97, 58, 58, 109, 97, 115, 107, 32, 33, 61, 32, 48, 41], ByteArray.mk #[101, 58, 58, 109, 97, 115, 107, 32, 61, 61, 32, 48, 32, 45, 62, 32, 112, 114, 105, 111, 114, 105, 116, 121, 32, 62, 32, 53]]) Try.underlying203 ty9 zr9 rfl rfl (.cons (by simp) (look_str (ByteArray.mk #[])) (.cons (by simp) (look_str (ByteArray.mk #[112, 114, 105, 111, 114, 105, 116, 121, 32, 60, 32, 49, 48, 48, 32, 38, 38, 32, 40, 101, 58, 58, 109, 97, 115, 107, 32, 33, 61, 32, 48, 32, 124, 124, 32, 97, 58, 58, 109, 97, 115, 107, 32, 33, 61, 32, 48, 41])) (.cons (by simp) (look_str (ByteArray.mk #[101, 58, 58, 109, 97, 115, 107, 32, 61, 61, 32, 48, 32, 45, 62, 32, 112, 114, 105, 111, 114, 105, 116, 121, 32, 62, 32, 53])) (.nil))))).as (some_in hz10)) rfl rfl rfl ?_
        obtain ⟨z11, hz11, h⟩ := bind_some h
        refine Sq.v ((r_bsl (r := [ByteArray.mk #[], ByteArray.mk #[102, 58, 58, 104, 105, 103, 104, 32, 45, 32, 102, 58, 58, 108, 111, 119, 32, 60, 61, 32, 48, 120, 49, 48, 48], ByteArray.mk #[33, 40, 102, 58, 58, 108, 111, 119, 32, 61, 61, 32, 48, 32, 38, 38, 32, 102, 58, 58, 104, 105, 103, 104, 32, 62, 32, 49, 48, 48, 48, 41]]) Try.underlying203 ty9 zr9 rfl rfl (.cons (by simp) (look_str (ByteArray.mk #[])) (.cons (by simp) (look_str (ByteArray.mk #[102, 58, 58, 104, 105, 103, 104, 32, 45, 32, 102, 58, 58, 108, 111, 119, 32, 60, 61, 32, 48, 120, 49, 48, 48])) (.cons (by simp) (look_str (ByteArray.mk #[33, 40, 102, 58, 58, 108, 111, 119, 32, 61, 61, 32, 48, 32, 38, 38, 32, 102, 58, 58, 104, 105, 103, 104, 32, 62, 32, 49, 48, 48, 48, 41])) (.nil))))).as (some_in hz11)) rfl rfl rfl ?_
        refine Sq.v (r_bsl (r := [z8, z9, z10, z11]) Try.underlying204 ty203 zr203 rfl rfl (.cons (by simp) (look_t rfl) (.cons (by simp) (look_t rfl) (.cons (by simp) (look_t rfl) (.cons (by simp) (look_t rfl) (.nil)))))) rfl rfl rfl ?_
        refine Sq.v (r_asg (look_t rfl)) rfl rfl rfl ?_
        refine Sq.nil ?_
        refine To.next ?_
        refine Wp.seq ?_
        refine Wp.seq ?_
        refine Wp.reg ?_
        refine Sq.v (r_move (look_t rfl)) rfl rfl rfl ?_
        refine Sq.v (r_lenO (i := 0) Try.underlying28 (look_t rfl) rfl rfl) rfl rfl rfl ?_
        refine Sq.v (r_move (look_int 0)) rfl rfl rfl ?_
        refine Sq.nil ?_
        refine To.next ?_
        refine Wp.block ?_
        obtain ⟨e1, hl, h⟩ := bind_some h
        refine Wp.loopG (σ := Int × (List T_api_Table) × T_mcase_Codes) (ε := (Int × Bool × (List T_api_Table) × T_mcase_Codes)) (γ := (Option Nat × Nat)) (δ := (Option Nat × Nat)) hl (fun s1 g4 => [(0, VP.eq (.pointer (some ⟨pp0, 0, none⟩))), (2, VP.of ([] : List T_api_Table)), (3, VP.eq (.pointer (some ⟨p1, 0, none⟩))), (4, VP.eq (.pointer (some ⟨p2, 0, none⟩))), (5, VP.eq (.pointer (some ⟨p3, 0, none⟩))), (6, VP.eq (.pointer (some ⟨p4, 0, none⟩))), (7, VP.eq (slv g4.1 s1.2.1.length g4.2)), (8, VP.of ([z8, z9, z10, z11])), (28, VP.of (y4.1)), (44, VP.of (y6.1)), (61, VP.of (y8.1)), (80, VP.of (z7.length : Int)), (81, VP.of (s1.1))]) (fun s1 g4 => [⟨g4.1, .row 136 (s1.2.1 : List T_api_Table) g4.2⟩, ⟨some pp0, .var (s1.2.2 : T_mcase_Codes)⟩, ⟨none, .row 163 (([] : List T_api_Key) : List T_api_Key) 0⟩, ⟨some p4, .var (({ m3.1 with f_Keys := m3.2 } : T_api_Table) : T_api_Table)⟩, ⟨none, .dead⟩, ⟨none, .row 163 (([] : List T_api_Key) : List T_api_Key) 0⟩, ⟨some p3, .var (({ m2.1 with f_Keys := m2.2 } : T_api_Table) : T_api_Table)⟩, ⟨none, .dead⟩, ⟨none, .row 163 (([] : List T_api_Key) : List T_api_Key) 0⟩, ⟨some p2, .var (({ m1.1 with f_Keys := m1.2 } : T_api_Table) : T_api_Table)⟩, ⟨none, .dead⟩, ⟨some p1, .var (z2 : T_api_Table)⟩]) (fun q9 => Exit.exit 0) (fun q9 g4 => [(0, VP.eq (.pointer (some ⟨pp0, 0, none⟩))), (2, VP.of ([] : List T_api_Table)), (3, VP.eq (.pointer (some ⟨p1, 0, none⟩))), (4, VP.eq (.pointer (some ⟨p2, 0, none⟩))), (5, VP.eq (.pointer (some ⟨p3, 0, none⟩))), (6, VP.eq (.pointer (some ⟨p4, 0, none⟩))), (7, VP.eq (slv g4.1 q9.2.2.1.length g4.2)), (8, VP.of ([z8, z9, z10, z11])), (28, VP.of (y4.1)), (44, VP.of (y6.1)), (61, VP.of (y8.1)), (80, VP.of (z7.length : Int)), (81, VP.of (q9.1)), (82, VP.of (q9.2.1))]) (fun q9 g4 => [⟨g4.1, .row 136 (q9.2.2.1 : List T_api_Table) g4.2⟩, ⟨some pp0, .var (q9.2.2.2 : T_mcase_Codes)⟩, ⟨none, .row 163 (([] : List T_api_Key) : List T_api_Key) 0⟩, ⟨some p4, .var (({ m3.1 with f_Keys := m3.2 } : T_api_Table) : T_api_Table)⟩, ⟨none, .dead⟩, ⟨none, .row 163 (([] : List T_api_Key) : List T_api_Key) 0⟩, ⟨some p3, .var (({ m2.1 with f_Keys := m2.2 } : T_api_Table) : T_api_Table)⟩, ⟨none, .dead⟩, ⟨none, .row 163 (([] : List T_api_Key) : List T_api_Key) 0⟩, ⟨some p2, .var (({ m1.1 with f_Keys := m1.2 } : T_api_Table) : T_api_Table)⟩, ⟨none, .dead⟩, ⟨some p1, .var (z2 : T_api_Table)⟩]) (key4, 4) rfl (.same rfl (.same rfl (.same rfl (.same rfl (.same rfl (.same rfl (.same rfl (.same rfl (.same rfl (.same rfl (.same rfl (.same rfl (.same rfl .nil))))))))))))) (fun s1 r h g4 => ?_) (fun g4 => ?_)
        · clear hl
          refine Wp.seq ?_
          refine Wp.reg ?_
          refine Sq.v (r_lss (look_t rfl) (look_t rfl)) rfl rfl rfl ?_
          refine Sq.nil ?_
          refine To.next ?_
          refine Wp.seq ?_
          refine Wp.cond (look_t rfl) (fun hc => ?_) (fun hc => ?_)
          · replace h := cond_t hc h
            refine Wp.skip ?_
            refine To.next ?_
            refine Wp.seq ?_
            refine Wp.block ?_
            refine Wp.seq ?_
            refine Wp.reg ?_
            refine Sq.v (r_move (look_t rfl)) rfl rfl rfl ?_
            refine Sq.v (r_asg (look_t rfl)) rfl rfl rfl ?_
            refine Sq.nil ?_
            refine To.next ?_
            obtain ⟨k1, hk1, h⟩ := bind_some h
            obtain ⟨y9, hy9, h⟩ := bind_some h
            obtain ⟨k2, hk2, h⟩ := bind_some h
            obtain ⟨k3, hk3, h⟩ := bind_some h
            obtain ⟨z12, hz12, h⟩ := bind_some h
            refine Wp.le (E' := [(0, VP.eq (.pointer (some ⟨pp0, 0, none⟩))), (2, VP.of ([] : List T_api_Table)), (3, VP.eq (.pointer (some ⟨p1, 0, none⟩))), (4, VP.eq (.pointer (some ⟨p2, 0, none⟩))), (5, VP.eq (.pointer (some ⟨p3, 0, none⟩))), (6, VP.eq (.pointer (some ⟨p4, 0, none⟩))), (7, VP.eq (slv g4.1 s1.2.1.length g4.2)), (8, VP.of ([z8, z9, z10, z11])), (9, VP.of (s1.1)), (28, VP.of (y4.1)), (44, VP.of (y6.1)), (61, VP.of (y8.1)), (80, VP.of (z7.length : Int)), (81, VP.of (s1.1)), (82, VP.of (decide (s1.1 < (z7.length : Int)))), (83, VP.of (s1.1))]) (.same rfl (.same rfl (.same rfl (.same rfl (.same rfl (.same rfl (.same rfl (.same rfl (.same rfl (.same rfl (.same rfl (.same rfl (.same rfl (.same rfl (.same rfl (.same rfl .nil)))))))))))))))) ?_
            refine Wp.drawD mixed (⟨some 84, [], [], [], fun _ => VP.eq (slv g4.1 s1.2.1.length g4.2), fun _ _ => ⟨none, .dead⟩⟩ :: ⟨some 85, [], [], [], fun _ => VP.of (s1.1), fun _ _ => ⟨none, .dead⟩⟩ :: ⟨some 86, [], [], [], fun _ => VP.of ([z8, z9, z10, z11]), fun _ _ => ⟨none, .dead⟩⟩ :: ⟨some 87, [], [], [], fun _ => VP.of (s1.1), fun _ _ => ⟨none, .dead⟩⟩ :: ⟨some 88, (2 :: 3 :: []), [], [], fun _ => VP.ptr (lget [z8, z9, z10, z11] k1), fun _ _ => ⟨none, .dead⟩⟩ :: ⟨some 89, (4 :: []), [], [], fun _ => VP.of (lget [z8, z9, z10, z11] k1), fun _ _ => ⟨none, .dead⟩⟩ :: ⟨some 90, [], [], [], fun _ => VP.eq (.pointer (some ⟨pp0, 0, none⟩)), fun _ _ => ⟨none, .dead⟩⟩ :: ⟨some 91, (6 :: []), (1 :: []), (1 :: []), fun _ => VP.of (y9.1), fun hd _ => ⟨some pp0, .var (y9.2 : T_mcase_Codes)⟩⟩ :: ⟨some 92, (5 :: 7 :: []), [], [], fun _ => VP.ptr (lget (lget [z8, z9, z10, z11] k1) k2), fun _ _ => ⟨none, .dead⟩⟩ :: ⟨some 93, (8 :: []), [], [], fun _ => VP.of (lget (lget [z8, z9, z10, z11] k1) k2), fun _ _ => ⟨none, .dead⟩⟩ :: ⟨some 94, (0 :: 1 :: []), (0 :: []), [], fun _ => VP.eq (.pointer (some ⟨g4.1.getD 0, k3 * 8, none⟩)), fun _ _ => ⟨none, .dead⟩⟩ :: ⟨some 95, (10 :: []), [], [], fun _ => VP.eq (.pointer (some ⟨g4.1.getD 0, k3 * 8 + 7, none⟩)), fun _ _ => ⟨none, .dead⟩⟩ :: ⟨none, (9 :: 10 :: 11 :: []), (0 :: []), (0 :: []), fun _ => VP.any, fun hd _ => ⟨g4.1, .row 136 (z12 : List T_api_Table) g4.2⟩⟩ :: []) ((some 84, [], [], []) :: (some 85, [], [], []) :: (some 86, [], [], []) :: (some 87, [], [], []) :: (some 88, (2 :: 3 :: []), [], []) :: (some 89, (4 :: []), [], []) :: (some 90, [], [], []) :: (some 91, (6 :: []), (1 :: []), (1 :: [])) :: (some 92, (5 :: 7 :: []), [], []) :: (some 93, (8 :: []), [], []) :: (some 94, (0 :: 1 :: []), (0 :: []), []) :: (some 95, (10 :: []), [], []) :: (none, (9 :: 10 :: 11 :: []), (0 :: []), (0 :: [])) :: []) (0 :: 2 :: 3 :: 4 :: 5 :: 6 :: 7 :: 8 :: 9 :: 28 :: 44 :: 61 :: 80 :: 81 :: 82 :: 83 :: []) rfl rfl (by kernel_rfl) ⟨?_, ?_, ?_, ?_, ?_, ?_, ?_, ?_, ?_, ?_, ?_, ?_, ?_, trivial⟩ fun hd => ?_
            · exact hd_v rfl rfl rfl fun hd E' L' hE hL => r_move (look_t (hE _ _ rfl))
            · exact hd_v rfl rfl rfl fun hd E' L' hE hL => r_move (look_t (hE _ _ rfl))
            · exact hd_v rfl rfl rfl fun hd E' L' hE hL => r_move (look_t (hE _ _ rfl))
            · exact hd_v rfl rfl rfl fun hd E' L' hE hL => r_move (look_t (hE _ _ rfl))
            · exact hd_v rfl rfl rfl fun hd E' L' hE hL => r_ias (k := k1) Try.underlying204 ty203 (look_t (hE _ _ rfl)) (look_t (hE _ _ rfl)) (idx_some hk1)
            · exact hd_v rfl rfl rfl fun hd E' L' hE hL => r_loadp ty203 (look_t (hE _ _ rfl))
            · exact hd_v rfl rfl rfl fun hd E' L' hE hL => r_move (look_t (hE _ _ rfl))
            · intro hd E' L' hE hL
              refine Sq.bring 1 (hL 1 _ rfl rfl) ?_
              refine Sq.callO (Lin := [⟨some pp0, .var (s1.2.2 : T_mcase_Codes)⟩]) (Lr := L'.eraseIdx 1) en49 (C_mcase_Codes_Next hy9) ⟨look_t (hE _ _ rfl), look_int 3, trivial⟩ rfl fun q10 => ?_
              refine Sq.nil ?_
              refine To.back 1 (hL 1 _ rfl rfl) ?_
              exact To.fin (gm []) rfl rfl
            · exact hd_v rfl rfl rfl fun hd E' L' hE hL => r_ias (k := k2) Try.underlying203 ty9 (look_t (hE _ _ rfl)) (look_t (hE _ _ rfl)) (idx_some hk2)
            · exact hd_v rfl rfl rfl fun hd E' L' hE hL => r_loadp ty9 (look_t (hE _ _ rfl))
            · exact hd_v rfl rfl rfl fun hd E' L' hE hL => r_iaO (i := 0) (k := k3) (xs := (s1.2.1 : List T_api_Table)) Try.underlying28 ty136 (look_t (hE _ _ rfl)) (look_t (hE _ _ rfl)) (hL 0 _ rfl rfl) (idx_some hk3)
            · exact hd_v rfl rfl rfl fun hd E' L' hE hL => r_fa fd136_7 (look_t (hE _ _ rfl))
            · intro hd E' L' hE hL
              refine Sq.storeR (i := 0) (k := k3) ((Lens.id T_api_Table).comp le_T_api_Table_Restriction) (v := (lget (lget [z8, z9, z10, z11] k1) k2 : ByteArray)) (r := (z12 : List T_api_Table)) ty9 (look_t (hE _ _ rfl)) (look_t (hE _ _ rfl)) (hL 0 _ rfl rfl) (idx_some hk3).1 rfl (some_in hz12) ?_
              refine Sq.nil ?_
              exact To.fin (gm []) rfl rfl
            refine To.eqL (L2 := [⟨g4.1, .row 136 (z12 : List T_api_Table) g4.2⟩, ⟨some pp0, .var (y9.2 : T_mcase_Codes)⟩, ⟨none, .row 163 (([] : List T_api_Key) : List T_api_Key) 0⟩, ⟨some p4, .var (({ m3.1 with f_Keys := m3.2 } : T_api_Table) : T_api_Table)⟩, ⟨none, .dead⟩, ⟨none, .row 163 (([] : List T_api_Key) : List T_api_Key) 0⟩, ⟨some p3, .var (({ m2.1 with f_Keys := m2.2 } : T_api_Table) : T_api_Table)⟩, ⟨none, .dead⟩, ⟨none, .row 163 (([] : List T_api_Key) : List T_api_Key) 0⟩, ⟨some p2, .var (({ m1.1 with f_Keys := m1.2 } : T_api_Table) : T_api_Table)⟩, ⟨none, .dead⟩, ⟨some p1, .var (z2 : T_api_Table)⟩]) rfl ?_
            refine To.relen (m := z12.length) 7 rfl (lset_len (some_in hz12)) ?_
            refine To.relen (m := z12.length) 84 rfl (lset_len (some_in hz12)) ?_
            refine To.le (E' := [(0, VP.eq (.pointer (some ⟨pp0, 0, none⟩))), (2, VP.of ([] : List T_api_Table)), (3, VP.eq (.pointer (some ⟨p1, 0, none⟩))), (4, VP.eq (.pointer (some ⟨p2, 0, none⟩))), (5, VP.eq (.pointer (some ⟨p3, 0, none⟩))), (6, VP.eq (.pointer (some ⟨p4, 0, none⟩))), (7, VP.eq (slv g4.1 z12.length g4.2)), (8, VP.of ([z8, z9, z10, z11])), (9, VP.of (s1.1)), (28, VP.of (y4.1)), (44, VP.of (y6.1)), (61, VP.of (y8.1)), (80, VP.of (z7.length : Int)), (81, VP.of (s1.1)), (82, VP.of (decide (s1.1 < (z7.length : Int)))), (83, VP.of (s1.1)), (84, VP.eq (slv g4.1 z12.length g4.2)), (85, VP.of (s1.1)), (86, VP.of ([z8, z9, z10, z11])), (87, VP.of (s1.1)), (88, VP.ptr (lget [z8, z9, z10, z11] k1)), (89, VP.of (lget [z8, z9, z10, z11] k1)), (90, VP.eq (.pointer (some ⟨pp0, 0, none⟩))), (91, VP.of (y9.1)), (92, VP.ptr (lget (lget [z8, z9, z10, z11] k1) k2)), (93, VP.of (lget (lget [z8, z9, z10, z11] k1) k2)), (94, VP.eq (.pointer (some ⟨g4.1.getD 0, k3 * 8, none⟩))), (95, VP.eq (.pointer (some ⟨g4.1.getD 0, k3 * 8 + 7, none⟩)))]) (.same rfl (.same rfl (.same rfl (.same rfl (.same rfl (.same rfl (.same rfl (.same rfl (.same rfl (.same rfl (.same rfl (.same rfl (.same rfl (.same rfl (.same rfl (.same rfl (.same rfl (.same rfl (.same rfl (.same rfl (.same rfl (.same rfl (.same rfl (.same rfl (.same rfl (.same rfl (.same rfl (.same rfl .nil)))))))))))))))))))))))))))) ?_
            refine To.bnorm ?_
            refine To.next ?_
            refine Wp.reg ?_
            refine Sq.v (r_add (look_t rfl) (look_int 1)) rfl rfl rfl ?_
            refine Sq.v (r_move (look_t rfl)) rfl rfl rfl ?_
            refine Sq.nil ?_
            replace h := some_in h
            subst h
            exact To.roundG (g4.1, g4.2) 0 rfl (.same rfl (.same rfl (.same rfl (.same rfl (.same rfl (.same rfl (.same rfl (.same rfl (.same rfl (.same rfl (.same rfl (.same rfl (.same rfl .nil)))))))))))))
          · replace h := cond_f hc h
            refine Wp.exit ?_
            refine To.exit ?_
            replace h := some_in h
            subst h
            exact To.leaveG (g4.1, g4.2) 0 rfl (by simp) rfl (.same rfl (.same rfl (.same rfl (.same rfl (.same rfl (.same rfl (.same rfl (.same rfl (.same rfl (.same rfl (.same rfl (.same rfl (.same rfl (.same rfl .nil))))))))))))))
        · clear hl
          refine To.bexit ?_
          refine To.next ?_
          refine Wp.seq ?_
          refine Wp.reg ?_
          refine Sq.v (r_move (look_t rfl)) rfl rfl rfl ?_
          refine Sq.v (r_asg (look_t rfl)) rfl rfl rfl ?_
          refine Sq.nil ?_
          refine To.next ?_
          refine Wp.ret ?_
          refine To.freezeL (α := T_api_Table) 0 [2, 7, 97] ⟨rfl, rfl, rfl, trivial⟩ rfl ?_
          refine To.bring 1 rfl ?_
          replace h := some_in h
          subst h
          exact To.endO1 () (.cons_cons _ (List.nil_sublist _)) rfl rfl (rvo_t rfl)
      · have h := cond_t hc hm3
        refine Wp.reg ?_
        refine Sq.v (r_fa fd136_2 (look_t rfl)) rfl rfl rfl ?_
        refine Sq.v (r_loadH (i := 2) (q := 0) (β := T_api_Table) (γ := T_api_Key) ty134 (look_t rfl) rfl rfl) rfl rfl rfl ?_
        obtain ⟨z13, hz13, h⟩ := bind_some h
        refine Sq.v ((r_build (b := { f_Name := ByteArray.mk #[103], f_Field := 9, f_Kind := 1 : T_api_Key }) rfl bu163 zr163 (.cons le_T_api_Key_Name rfl (look_str (ByteArray.mk #[103])) rfl (.cons le_T_api_Key_Field rfl (look_int 9) rfl (.cons le_T_api_Key_Kind rfl (look_int 1) rfl (.nil))))).as (some_in hz13)) rfl rfl rfl ?_
        obtain ⟨z14, hz14, h⟩ := bind_some h
        refine Sq.v ((r_build (b := { f_Name := ByteArray.mk #[100], f_Field := 7, f_Kind := 2 : T_api_Key }) rfl bu163 zr163 (.cons le_T_api_Key_Name rfl (look_str (ByteArray.mk #[100])) rfl (.cons le_T_api_Key_Field rfl (look_int 7) rfl (.cons le_T_api_Key_Kind rfl (look_int 2) rfl (.nil))))).as (some_in hz14)) rfl rfl rfl ?_
        refine Sq.v (r_bsl (r := [z13, z14]) Try.underlying134 ty163 zr163 rfl rfl (.cons (by simp) (look_t rfl) (.cons (by simp) (look_t rfl) (.nil)))) rfl rfl rfl ?_
        obtain ⟨y10, hy10, h⟩ := bind_some h
        refine Sq.app (i := 3) Try.underlying134 ty163 zr163 (bytes := 32) (by kernel_rfl) (look_t rfl) rfl (look_t rfl) hy10 rfl fun key5 cap1 => ?_
        refine Sq.v (r_fa fd136_2 (look_t rfl)) rfl rfl rfl ?_
        refine Sq.storeH (i := 2) (γ := T_api_Key) (b' := (({ ({ (default : T_api_Table) with f_ID := 4, f_Name := ByteArray.mk #[115, 112, 97, 110, 115], f_Actions := ([1, 3, 5] : List Int), f_Default := 3, f_DefaultArgs := [({ (default : T_api_Value) with f_Lo := 7#64 } : T_api_Value)], f_Size := w64 (3 + y7.1) } : T_api_Table) with f_Keys := [] } : T_api_Table) : T_api_Table)) (os' := [(2, slv key5 y10.length cap1)]) ((Lens.id T_api_Table).comp le_T_api_Table_Keys) ty134 (look_t rfl) (look_t rfl) slv_one rfl rfl rfl rfl ?_
        refine Sq.nil ?_
        replace h := some_in h
        subst h
        exact To.meet 0 rfl (.same rfl (.same rfl (.same rfl (.same rfl (.same rfl (.same rfl (.same rfl (.same rfl (.same rfl .nil))))))))) (hm (key5, cap1))
      · have h := cond_f hc hm3
        refine Wp.skip ?_
        replace h := some_in h
        subst h
        exact To.meet 0 rfl (.same rfl (.same rfl (.same rfl (.same rfl (.same rfl (.same rfl (.same rfl (.same rfl (.same rfl .nil))))))))) (hm (key3, 1))
    · have h := cond_t hc hm2
      refine Wp.reg ?_
      refine Sq.v (r_fa fd136_2 (look_t rfl)) rfl rfl rfl ?_
      refine Sq.v (r_loadH (i := 2) (q := 0) (β := T_api_Table) (γ := T_api_Key) ty134 (look_t rfl) rfl rfl) rfl rfl rfl ?_
      obtain ⟨z15, hz15, h⟩ := bind_some h
      refine Sq.v ((r_build (b := { f_Name := ByteArray.mk #[98], f_Field := 5, f_Kind := 1 : T_api_Key }) rfl bu163 zr163 (.cons le_T_api_Key_Name rfl (look_str (ByteArray.mk #[98])) rfl (.cons le_T_api_Key_Field rfl (look_int 5) rfl (.cons le_T_api_Key_Kind rfl (look_int 1) rfl (.nil))))).as (some_in hz15)) rfl rfl rfl ?_
      refine Sq.v (r_bsl (r := [z15]) Try.underlying134 ty163 zr163 rfl rfl (.cons (by simp) (look_t rfl) (.nil))) rfl rfl rfl ?_
      obtain ⟨y11, hy11, h⟩ := bind_some h
      refine Sq.app (i := 3) Try.underlying134 ty163 zr163 (bytes := 32) (by kernel_rfl) (look_t rfl) rfl (look_t rfl) hy11 rfl fun key6 cap2 => ?_
      refine Sq.v (r_fa fd136_2 (look_t rfl)) rfl rfl rfl ?_
      refine Sq.storeH (i := 2) (γ := T_api_Key) (b' := (({ ({ (default : T_api_Table) with f_ID := 3, f_Name := ByteArray.mk #[97, 99, 108], f_Actions := ([1, 2, 3, 5, 6] : List Int), f_Default := 1, f_Size := w64 (4 + y5.1) } : T_api_Table) with f_Keys := [] } : T_api_Table) : T_api_Table)) (os' := [(2, slv key6 y11.length cap2)]) ((Lens.id T_api_Table).comp le_T_api_Table_Keys) ty134 (look_t rfl) (look_t rfl) slv_one rfl rfl rfl rfl ?_
      refine Sq.nil ?_
      replace h := some_in h
      subst h
      exact To.meet 0 rfl (.same rfl (.same rfl (.same rfl (.same rfl (.same rfl (.same rfl (.same rfl .nil))))))) (hm (key6, cap2))
    · have h := cond_f hc hm2
      refine Wp.skip ?_
      replace h := some_in h
      subst h
      exact To.meet 0 rfl (.same rfl (.same rfl (.same rfl (.same rfl (.same rfl (.same rfl (.same rfl .nil))))))) (hm (key2, 2))
  · have h := cond_t hc hm1
    refine Wp.reg ?_
    refine Sq.v (r_fa fd136_2 (look_t rfl)) rfl rfl rfl ?_
    refine Sq.v (r_loadH (i := 2) (q := 0) (β := T_api_Table) (γ := T_api_Key) ty134 (look_t rfl) rfl rfl) rfl rfl rfl ?_
    obtain ⟨z16, hz16, h⟩ := bind_some h
    refine Sq.v ((r_build (b := { f_Name := ByteArray.mk #[109], f_Field := 3, f_Kind := 1 : T_api_Key }) rfl bu163 zr163 (.cons le_T_api_Key_Name rfl (look_str (ByteArray.mk #[109])) rfl (.cons le_T_api_Key_Field rfl (look_int 3) rfl (.cons le_T_api_Key_Kind rfl (look_int 1) rfl (.nil))))).as (some_in hz16)) rfl rfl rfl ?_
    refine Sq.v (r_bsl (r := [z16]) Try.underlying134 ty163 zr163 rfl rfl (.cons (by simp) (look_t rfl) (.nil))) rfl rfl rfl ?_
    obtain ⟨y12, hy12, h⟩ := bind_some h
    refine Sq.app (i := 3) Try.underlying134 ty163 zr163 (bytes := 32) (by kernel_rfl) (look_t rfl) rfl (look_t rfl) hy12 rfl fun key7 cap3 => ?_
    refine Sq.v (r_fa fd136_2 (look_t rfl)) rfl rfl rfl ?_
    refine Sq.storeH (i := 2) (γ := T_api_Key) (b' := (({ ({ (default : T_api_Table) with f_ID := 2, f_Name := ByteArray.mk #[114, 111, 117, 116, 101, 115], f_Actions := ([1, 2, 3, 4] : List Int), f_Default := 2, f_Size := w64 (3 + y3.1) } : T_api_Table) with f_Keys := [] } : T_api_Table) : T_api_Table)) (os' := [(2, slv key7 y12.length cap3)]) ((Lens.id T_api_Table).comp le_T_api_Table_Keys) ty134 (look_t rfl) (look_t rfl) slv_one rfl rfl rfl rfl ?_
    refine Sq.nil ?_
    replace h := some_in h
    subst h
    exact To.meet 0 rfl (.same rfl (.same rfl (.same rfl (.same rfl (.same rfl .nil))))) (hm (key7, cap3))
  · have h := cond_f hc hm1
    refine Wp.skip ?_
    replace h := some_in h
    subst h
    exact To.meet 0 rfl (.same rfl (.same rfl (.same rfl (.same rfl (.same rfl .nil))))) (hm (key1, 1))
end Go.Proofs.Ytodajdohokmjnaa
