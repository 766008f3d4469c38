/-
  Printed by the decompiler (dec.py) out of the seat's translation. Each function meets its functional program. Conditions: none.
-/
import Derived.Test.YtodajdohokmjnaaDc0
import Derived.Test.YtodajdohokmjnaaDc5
import Derived.Test.YtodajdohokmjnaaDc6
namespace Go.Proofs.Ytodajdohokmjnaa
open Go Gv
set_option linter.unusedVariables false
set_option linter.unusedSimpArgs false
set_option maxRecDepth 100000
set_option maxHeartbeats 2000000
theorem C_shadow_Check {x0 : T_api_Schema} {x1 : List T_api_Installed} {x2 : Int}  {r : Bool × Int} (h : L_shadow_Check x0 x1 x2 = some r) : Meets Try.prog 40 [VP.of (x0), VP.of (x1), VP.of (x2)] (VP.tup [VP.of (r.1), VP.of (r.2)]) := by
 unfold L_shadow_Check at h
 refine Meets.of Try.func40 rfl Try.ntmps40 rfl fun W A => ?_
 refine Qsr ?_
 refine Qbx fun p1 => ?_
 refine Qa ?_
 refine Qa ?_
 refine Qnr ?_
 refine Ql0 0 ty33 ?_
 refine Qm ?_
 refine Qm ?_
 obtain ⟨y1,hy1,h⟩:=Qbs h
 refine Qcl en90 (C_shadow_question hy1) ?_
 refine Qm ?_
 refine Qxt ?_
 refine Qxt ?_
 refine Qxt ?_
 refine Qal zr185 fun p2 => ?_
 refine Qs0 0 ty185 ?_
 refine Qa ?_
 refine Qa ?_
 refine Qns ?_
 refine Qsr ?_
 refine Qm ?_
 refine Q2 r_neq ?_
 refine Qnx ?_
 refine Qcd h (fun h=>?_) fun h=>?_
 ·refine Qsr ?_
  refine Qm ?_
  refine Qa ?_
  refine Qa ?_
  refine Qnx ?_
  refine Wp.ret ?_
  refine To.ret ?_
  obtain rfl:=some_in h
  exact Qe2
 ·refine Qkn ?_
  refine Qsr ?_
  refine Ql0 0 ty185 ?_
  refine Qm ?_
  obtain ⟨y2,hy2,h⟩:=Qbs h
  refine Qcl en91 (C_cover_Covered hy2) ?_
  refine Qxt ?_
  refine Qxt ?_
  refine Qa ?_
  refine Qa ?_
  refine Qnx ?_
  refine Wp.ret ?_
  obtain rfl:=some_in h
  exact Qe2
theorem C_shadow_Witness {x0 : T_api_Schema} {x1 : List T_api_Installed} {x2 : Int}  {r : (Vector T_api_Value 4) × Bool × Int} (h : L_shadow_Witness x0 x1 x2 = some r) : Meets Try.prog 41 [VP.of (x0), VP.of (x1), VP.of (x2)] (VP.tup [VP.of (r.1), VP.of (r.2.1), VP.of (r.2.2)]) := by
 unfold L_shadow_Witness at h
 refine Meets.of Try.func41 rfl Try.ntmps41 rfl fun W A => ?_
 refine Qsr ?_
 refine Qbx fun p1 => ?_
 refine Qal zr81 fun p2 => ?_
 refine Qa ?_
 refine Qa ?_
 refine Qnr ?_
 refine Ql0 1 ty33 ?_
 refine Qm ?_
 refine Qm ?_
 obtain ⟨y1,hy1,h⟩:=Qbs h
 refine Qcl en90 (C_shadow_question hy1) ?_
 refine Qm ?_
 refine Qxt ?_
 refine Qxt ?_
 refine Qxt ?_
 refine Qal zr185 fun p3 => ?_
 refine Qs0 0 ty185 ?_
 refine Qa ?_
 refine Qa ?_
 refine Qns ?_
 refine Qsr ?_
 refine Qm ?_
 refine Q2 r_neq ?_
 refine Qnx ?_
 refine Qcd h (fun h=>?_) fun h=>?_
 ·refine Qsr ?_
  refine Qv (r_buildA (b := (default : Vector T_api_Value 4)) (sz := 2) rfl Try.underlying81 (by kernel_rfl) zr81 (.nil)) ?_
  refine Qm ?_
  refine Qs0 1 ty81 ?_
  refine Qa ?_
  refine Qa ?_
  refine Qnx ?_
  refine Wp.ret ?_
  refine To.ret ?_
  obtain rfl:=some_in h
  exact To.end3 rfl (Qrc 1 ty81) (rv_t rfl) (rv_t rfl)
 ·refine Qkn ?_
  refine Qsr ?_
  refine Ql0 0 ty185 ?_
  refine Qm ?_
  obtain ⟨y2,hy2,h⟩:=Qbs h
  refine Qcl en92 (C_cover_Witness hy2) ?_
  refine Qxt ?_
  refine Qxt ?_
  refine Qxt ?_
  refine Qs0 1 ty81 ?_
  refine Qa ?_
  refine Qa ?_
  refine Qnx ?_
  refine Wp.ret ?_
  obtain rfl:=some_in h
  exact To.end3 rfl (Qrc 1 ty81) (rv_t rfl) (rv_t rfl)
theorem C_law27_begun   {r : Bool} (h : L_law27_begun  = some r) : Meets Try.prog 42 [] (VP.of (r)) := by
 unfold L_law27_begun at h
 refine Meets.of Try.func42 rfl Try.ntmps42 rfl fun W A => ?_
 refine Qsr ?_
 refine Qa ?_
 refine Qnr ?_
 obtain ⟨y1,hy1,h⟩:=Qbs h
 refine QcO 0 en12 (C_mcase_New hy1) fun q1 => ?_
 refine Sq.bring 0 rfl ?_
 obtain ⟨y2,hy2,h⟩:=Qbs h
 refine QcO 1 en13 (C_mcase_Codes_Schema hy2) fun q2 => ?_
 refine Qal zr33 fun p1 => ?_
 refine Qs0 0 ty33 ?_
 refine Qnr ?_
 obtain ⟨y3,hy3,h⟩:=Qbs h
 refine Sq.mks Try.underlying87 ty104 zr104 rfl (by kernel_rfl) (look_int 2) (look_int 2) hy3 rfl fun key1 => ?_
 refine Sq.freeze (α := T_api_Match) 0 10 rfl rfl ?_
 obtain ⟨z1,hz1,h⟩:=Qbs h
 refine Qn hz1 (r_build (b := ({ (default : T_api_Entry) with f_Table := 3, f_Matches := y3, f_Priority := 5, f_Action := 1 } : T_api_Entry)) rfl bu89 zr89 (.cons le_T_api_Entry_Table rfl (look_int 3) rfl (.cons le_T_api_Entry_Matches rfl (look_t rfl) rfl (.cons le_T_api_Entry_Priority rfl (look_int 5) rfl (.cons le_T_api_Entry_Action rfl (look_int 1) rfl (.nil)))))) ?_
 obtain ⟨z2,hz2,h⟩:=Qbs h
 refine Qn hz2 (r_build (b := ({ (default : T_api_Installed) with f_Entry := z1, f_Number := 1 } : T_api_Installed)) rfl bu92 zr92 (.cons le_T_api_Installed_Entry rfl (look_t rfl) rfl (.cons le_T_api_Installed_Number rfl (look_int 1) rfl (.nil)))) ?_
 refine Qal zr92 fun p2 => ?_
 refine Qs0 0 ty92 ?_
 refine Qnr ?_
 obtain ⟨y4,hy4,h⟩:=Qbs h
 refine Sq.mks Try.underlying87 ty104 zr104 rfl (by kernel_rfl) (look_int 2) (look_int 2) hy4 rfl fun key2 => ?_
 refine Sq.freeze (α := T_api_Match) 0 13 rfl rfl ?_
 obtain ⟨z3,hz3,h⟩:=Qbs h
 refine Qn hz3 (r_build (b := ({ (default : T_api_Entry) with f_Table := 3, f_Matches := y4, f_Priority := 4, f_Action := 1 } : T_api_Entry)) rfl bu89 zr89 (.cons le_T_api_Entry_Table rfl (look_int 3) rfl (.cons le_T_api_Entry_Matches rfl (look_t rfl) rfl (.cons le_T_api_Entry_Priority rfl (look_int 4) rfl (.cons le_T_api_Entry_Action rfl (look_int 1) rfl (.nil)))))) ?_
 obtain ⟨z4,hz4,h⟩:=Qbs h
 refine Qn hz4 (r_build (b := ({ (default : T_api_Installed) with f_Entry := z3, f_Number := 2 } : T_api_Installed)) rfl bu92 zr92 (.cons le_T_api_Installed_Entry rfl (look_t rfl) rfl (.cons le_T_api_Installed_Number rfl (look_int 2) rfl (.nil)))) ?_
 refine Qal zr92 fun p3 => ?_
 refine Qs0 0 ty92 ?_
 refine Qnr ?_
 refine Ql0 4 ty33 ?_
 refine Ql0 2 ty92 ?_
 refine Ql0 0 ty92 ?_
 refine Qbl [z2, z4] Try.underlying84 ty92 zr92 ?_
 obtain ⟨y5,hy5,h⟩:=Qbs h
 refine Qcl en40 (C_shadow_Check hy5) ?_
 refine Qm ?_
 refine Qxt ?_
 refine Qxt ?_
 refine Qa ?_
 refine Qa ?_
 refine Qnr ?_
 refine Ql0 4 ty33 ?_
 refine Ql0 2 ty92 ?_
 refine Ql0 0 ty92 ?_
 refine Qbl [z2, z4] Try.underlying84 ty92 zr92 ?_
 obtain ⟨y6,hy6,h⟩:=Qbs h
 refine Qcl en40 (C_shadow_Check hy6) ?_
 refine Qm ?_
 refine Qxt ?_
 refine Qxt ?_
 refine Qa ?_
 refine Qa ?_
 refine Qnr ?_
 refine Qm ?_
 refine Qm ?_
 refine Qg1 r_move ?_
 refine Qg1 r_not ?_
 refine Qan ?_
 refine Qm ?_
 refine Qg1 r_move ?_
 refine Qg2 r_eql ?_
 refine Qan ?_
 refine Qm ?_
 refine Qg1 r_move ?_
 refine Qg2 r_eql ?_
 refine Qan ?_
 refine Qa ?_
 refine Qnx ?_
 refine Wp.ret ?_
 obtain rfl:=some_in h
 exact Qe1
theorem C_law27_ShadowBudget {x0 : List (BitVec 8)} {x1 : Int}  {r : Bool} (h : L_law27_ShadowBudget x0 x1 = some r) : Meets Try.prog 8 [VP.of (x0), VP.of (x1)] (VP.of (r)) := by
 unfold L_law27_ShadowBudget at h
 refine Meets.of Try.func8 rfl Try.ntmps8 rfl fun W A => ?_
 refine Qsr ?_
 refine Qa ?_
 refine Qnr ?_
 obtain ⟨y1,hy1,h⟩:=Qbs h
 refine QcO 0 en12 (C_mcase_New hy1) fun q1 => ?_
 refine Sq.bring 0 rfl ?_
 obtain ⟨y2,hy2,h⟩:=Qbs h
 refine QcO 1 en13 (C_mcase_Codes_Schema hy2) fun q2 => ?_
 refine Qal zr33 fun p1 => ?_
 refine Qs0 0 ty33 ?_
 refine Qnr ?_
 refine Sq.own (α := T_api_Installed) 92 ?_
 refine Qv (r_asg look_own) ?_
 refine Qnr ?_
 refine Qm ?_
 obtain ⟨y3,hy3,h⟩:=Qbs h
 refine Qcl en22 (C_mcase_Mod hy3) ?_
 refine Q2 r_add ?_
 refine Qa ?_
 refine Qns ?_
 refine Qsr ?_
 refine Qa ?_
 refine Qnx ?_
 refine Wp.block ?_
 obtain ⟨e1,hl,h⟩:=Qbs h
 refine Qlp (γ:=(Option Nat × Nat)) (δ:=(Option Nat × Nat)) hl [1, 4, 5, 7] (fun s1 g1 => [(6, VP.eq (slv g1.1 s1.2.length g1.2)), (8, VP.of (s1.1))]) (fun s1 g1 => [(0, ⟨g1.1, .row 92 (s1.2 : List T_api_Installed) g1.2⟩)]) (fun q3 => Exit.exit 0) (fun q3 g1 => [(6, VP.eq (slv g1.1 q3.2.2.length g1.2)), (8, VP.of (q3.1)), (22, VP.of (q3.2.1))]) (fun q3 g1 => [(0, ⟨g1.1, .row 92 (q3.2.2 : List T_api_Installed) g1.2⟩)]) (none, 0) (fun s1 r h g1 => ?_) fun g1 => ?_
 ·clear hl
  refine Wp.seq ?_
  refine Qsr ?_
  refine Qm ?_
  refine Qm ?_
  refine Q2 r_lss ?_
  refine Qnx ?_
  refine Qcd h (fun h=>?_) fun h=>?_
  ·refine Qkn ?_
   refine Wp.seq ?_
   refine Wp.block ?_
   refine Qsr ?_
   refine Qv (r_build (b := ({ (default : T_api_Value) with f_Lo := 255#64 } : T_api_Value)) rfl bu47 zr47 (.cons le_T_api_Value_Lo rfl (look_u64 255 rfl) rfl (.nil))) ?_
   refine Qm ?_
   refine Q1 (r_ci64 Try.underlying3 Try.underlying45) ?_
   obtain ⟨z1,hz1,h⟩:=Qbs h
   refine Qn hz1 (r_build (b := ({ (default : T_api_Value) with f_Lo := BitVec.ofInt 64 s1.1 } : T_api_Value)) rfl bu47 zr47 (.cons le_T_api_Value_Lo rfl (look_t rfl) rfl (.nil))) ?_
   obtain ⟨z2,hz2,h⟩:=Qbs h
   refine Qn hz2 (r_build (b := ({ (default : T_api_Match) with f_Present := true, f_Mask := ({ (default : T_api_Value) with f_Lo := 255#64 } : T_api_Value), f_Value := z1 } : T_api_Match)) rfl bu104 zr104 (.cons le_T_api_Match_Present rfl (look_bool true) rfl (.cons le_T_api_Match_Mask rfl (look_t rfl) rfl (.cons le_T_api_Match_Value rfl (look_t rfl) rfl (.nil))))) ?_
   refine Qal zr104 fun p2 => ?_
   refine Qs0 0 ty104 ?_
   refine Qnx ?_
   refine Wp.reg ?_
   refine Qm ?_
   refine Ql0 0 ty104 ?_
   refine Qbd bu104 zr104 (default : T_api_Match) .nil ?_
   refine Qbl [z2, (default : T_api_Match)] Try.underlying87 ty104 zr104 ?_
   obtain ⟨z3,hz3,h⟩:=Qbs h
   refine Qn hz3 (r_build (b := ({ (default : T_api_Entry) with f_Table := 3, f_Matches := [z2, (default : T_api_Match)], f_Priority := 9, f_Action := 1 } : T_api_Entry)) rfl bu89 zr89 (.cons le_T_api_Entry_Table rfl (look_int 3) rfl (.cons le_T_api_Entry_Matches rfl (look_t rfl) rfl (.cons le_T_api_Entry_Priority rfl (look_int 9) rfl (.cons le_T_api_Entry_Action rfl (look_int 1) rfl (.nil)))))) ?_
   refine Qm ?_
   refine Q2 r_add ?_
   obtain ⟨z4,hz4,h⟩:=Qbs h
   refine Qn hz4 (r_build (b := ({ (default : T_api_Installed) with f_Entry := z3, f_Number := w64 (s1.1 + 1) } : T_api_Installed)) rfl bu92 zr92 (.cons le_T_api_Installed_Entry rfl (look_t rfl) rfl (.cons le_T_api_Installed_Number rfl (look_t rfl) rfl (.nil)))) ?_
   refine Qbl [z4] Try.underlying84 ty92 zr92 ?_
   obtain ⟨y4,hy4,h⟩:=Qbs h
   refine Qap 1 Try.underlying84 ty92 zr92 hy4 fun key1 cap1 => ?_
   refine Qa ?_
   refine Sq.nil ?_
   refine To.bnorm ?_
   refine To.next ?_
   refine Wp.reg ?_
   refine Qm ?_
   refine Q2 r_add ?_
   refine Qa ?_
   refine Sq.nil ?_
   obtain rfl:=some_in h
   exact Qrd (key1, cap1) 1
  ·refine Wp.exit ?_
   refine To.exit ?_
   obtain rfl:=some_in h
   exact Qlv (g1.1, g1.2) 0
 ·clear hl
  refine To.bexit ?_
  refine To.next ?_
  refine Qsr ?_
  refine Qm ?_
  obtain ⟨y5,hy5,h⟩:=Qbs h
  refine Sq.mks Try.underlying87 ty104 zr104 rfl (by kernel_rfl) (look_int 2) (look_int 2) hy5 rfl fun key2 => ?_
  refine Sq.freeze (α := T_api_Match) 0 41 rfl rfl ?_
  obtain ⟨z5,hz5,h⟩:=Qbs h
  refine Qn hz5 (r_build (b := ({ (default : T_api_Entry) with f_Table := 3, f_Matches := y5, f_Priority := 1, f_Action := 1 } : T_api_Entry)) rfl bu89 zr89 (.cons le_T_api_Entry_Table rfl (look_int 3) rfl (.cons le_T_api_Entry_Matches rfl (look_t rfl) rfl (.cons le_T_api_Entry_Priority rfl (look_int 1) rfl (.cons le_T_api_Entry_Action rfl (look_int 1) rfl (.nil)))))) ?_
  obtain ⟨z6,hz6,h⟩:=Qbs h
  refine Qn hz6 (r_build (b := ({ (default : T_api_Installed) with f_Entry := z5, f_Number := 90 } : T_api_Installed)) rfl bu92 zr92 (.cons le_T_api_Installed_Entry rfl (look_t rfl) rfl (.cons le_T_api_Installed_Number rfl (look_int 90) rfl (.nil)))) ?_
  refine Qbl [z6] Try.underlying84 ty92 zr92 ?_
  obtain ⟨y6,hy6,h⟩:=Qbs h
  refine Qap 1 Try.underlying84 ty92 zr92 hy6 fun key3 cap2 => ?_
  refine Qa ?_
  refine Qnr ?_
  refine Ql0 2 ty33 ?_
  refine Qm ?_
  refine Sq.freezeL (α := T_api_Installed) 1 [48, 6, 45] ⟨rfl, rfl, rfl, trivial⟩ rfl ?_
  obtain ⟨y7,hy7,h⟩:=Qbs h
  refine Qcl en40 (C_shadow_Check hy7) ?_
  refine Qm ?_
  refine Qxt ?_
  refine Qxt ?_
  refine Qa ?_
  refine Qa ?_
  refine Qnr ?_
  refine Ql0 2 ty33 ?_
  refine Qm ?_
  obtain ⟨y8,hy8,h⟩:=Qbs h
  refine Qcl en41 (C_shadow_Witness hy8) ?_
  refine Qm ?_
  refine Qxt ?_
  refine Qxt ?_
  refine Qxt ?_
  refine Qal zr81 fun p3 => ?_
  refine Qs0 0 ty81 ?_
  refine Qa ?_
  refine Qa ?_
  refine Qns ?_
  refine Qsr ?_
  refine Qm ?_
  refine Q2 r_gtr ?_
  refine Qnx ?_
  refine Qcd h (fun h=>?_) fun h=>?_
  ·refine Qsr ?_
   refine Qm ?_
   refine Q1 r_not ?_
   refine Qm ?_
   refine Qg1 r_move ?_
   refine Qg2 r_eql ?_
   refine Qan ?_
   refine Qm ?_
   refine Qg1 r_move ?_
   refine Qg1 r_not ?_
   refine Qan ?_
   refine Qm ?_
   refine Qg1 r_move ?_
   refine Qg1 r_move ?_
   refine Qg2 r_eql ?_
   refine Qan ?_
   refine Qm ?_
   obtain ⟨y9,hy9,h⟩:=Qbs h
   refine Qg (fun hb => r_call en42 (C_law27_begun (condM_some hy9 hb)) trivial) ?_
   refine Qan ?_
   refine Qa ?_
   refine Qnx ?_
   refine Wp.ret ?_
   refine To.ret ?_
   obtain rfl:=some_in h
   exact Qe1
  ·refine Qkn ?_
   refine Qsr ?_
   refine Qm ?_
   refine Q1 r_not ?_
   refine Qm ?_
   refine Qg1 r_move ?_
   refine Qg2 r_eql ?_
   refine Qan ?_
   refine Qm ?_
   refine Qg1 r_move ?_
   refine Qg1 r_move ?_
   refine Qg2 r_eql ?_
   refine Qan ?_
   refine Qm ?_
   refine Qg1 r_move ?_
   refine Qan ?_
   refine Qm ?_
   refine Qg (fun hb => r_load (i := 0) (Lens.id (Vector T_api_Value 4)) (r := y8.1) ty81 (look_t rfl) rfl rfl rfl) ?_
   refine Qg1 r_move ?_
   refine Qg (fun hb => r_ci64 Try.underlying3 Try.underlying45 (look_tc rfl hb)) ?_
   refine Qg (fun hb => r_build (b := ({ (default : T_api_Value) with f_Lo := BitVec.ofInt 64 (w64 (15 + y3)) } : T_api_Value)) rfl bu47 zr47 (.cons le_T_api_Value_Lo rfl (look_tc rfl hb) rfl (.nil))) ?_
   refine Qg (fun hb => r_buildA (b := vset (default : Vector T_api_Value 4) 0 ({ (default : T_api_Value) with f_Lo := BitVec.ofInt 64 (w64 (15 + y3)) } : T_api_Value)) (sz := 2) rfl Try.underlying81 (by kernel_rfl) zr81 (.cons (Lens.idx 4 0 (by decide)) rfl (look_tc rfl hb) rfl (.nil))) ?_
   refine Qg2 (r_eqA eqv81 rfl eqg81 rfl) ?_
   obtain ⟨z7,hz7,h⟩:=Qbs h
   refine Qn hz7 (r_and (look_t rfl) (look_t rfl) (fun h => h)) ?_
   refine Qm ?_
   obtain ⟨y10,hy10,h⟩:=Qbs h
   refine Qg (fun hb => r_call en42 (C_law27_begun (condM_some hy10 hb)) trivial) ?_
   refine Qan ?_
   refine Qa ?_
   refine Qnx ?_
   refine Wp.ret ?_
   obtain rfl:=some_in h
   exact Qe1
end Go.Proofs.Ytodajdohokmjnaa
