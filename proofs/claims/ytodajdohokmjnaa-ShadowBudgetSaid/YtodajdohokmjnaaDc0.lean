/-
  Printed by the decompiler (dec.py) out of the seat's translation. Each function meets its functional program. Conditions: none.
-/
import Derived.Test.YtodajdohokmjnaaDl
namespace Go.Proofs.Ytodajdohokmjnaa
open Go Gv
set_option linter.unusedVariables false
set_option linter.unusedSimpArgs false
set_option maxRecDepth 100000
set_option maxHeartbeats 2000000
theorem C_mcase_New {x0 : List (BitVec 8)} {x1 : Int}  {r : T_mcase_Codes} (h : L_mcase_New x0 x1 = some r) : MeetsO Try.prog 12 [VP.of (x0), VP.of (x1)] [] (δ := Nat) (fun d => VP.eq (.pointer (some ⟨d, 0, none⟩))) (fun d => [⟨some d, .var (r : T_mcase_Codes)⟩]) := by
 unfold L_mcase_New at h
 refine MeetsO.of Try.func12 rfl Try.ntmps12 rfl fun W A => ?_
 refine Qsr ?_
 refine Qv (r_asg (look_e (.pointer none))) ?_
 refine Qnr ?_
 refine Qm ?_
 refine Qm ?_
 refine Q1 (r_len Try.underlying22) ?_
 refine Qm ?_
 refine Q2 r_min ?_
 obtain ⟨y1,hy1,h⟩:=Qbs h
 refine Qv (r_slice Try.underlying22 ty5 (look_t rfl) .none (.some (look_t rfl)) hy1) ?_
 refine Qbd bu120 zr120 ({ (default : T_mcase_Codes) with f_l := y1 } : T_mcase_Codes) (Qfl le_T_mcase_Codes_l .nil) ?_
 refine Qbx fun p1 => ?_
 refine Qa ?_
 refine Qnx ?_
 refine Wp.ret ?_
 refine To.bring 0 rfl ?_
 obtain rfl:=some_in h
 exact Qo1 p1
theorem C_mcase_Codes_Left {x0 : T_mcase_Codes} {pp0 : Nat} {r : Bool} (h : L_mcase_Codes_Left x0 = some r) : MeetsO Try.prog 76 [VP.eq (.pointer (some ⟨pp0, 0, none⟩))] [⟨some pp0, .var (x0 : T_mcase_Codes)⟩] (δ := Unit) (fun d => VP.of (r)) (fun d => [⟨some pp0, .var (x0 : T_mcase_Codes)⟩]) := by
 unfold L_mcase_Codes_Left at h
 refine MeetsO.of Try.func76 rfl Try.ntmps76 rfl fun W A => ?_
 refine Qsr ?_
 refine Qa ?_
 refine Qns ?_
 refine Wp.draw mixed 10 [some 3, some 4, some 5, some 6, some 7, some 8, some 9, some 10, some 11, some 12] [[], [0], [1], [2], [], [4], [5], [6], [7], [3, 8]] [.val _, .val _, .val _, .val _, .val _, .val _, .val _, .val _, .val _, .val _] [false, false, false, false, false, false, false, false, false, false] (by kernel_rfl) rfl rfl rfl (fun ps1 => ⟨Hm, H1 r_nck, H1 (r_fa fd120_1), Hld 0 le_T_mcase_Codes_at ty3, Hm, H1 r_nck, H1 (r_fa fd120_0), Hld 0 le_T_mcase_Codes_l ty22, H1 (r_len Try.underlying22), H2 r_lss, trivial⟩) fun ps1 => ?_
 refine Qa ?_
 refine Qnx ?_
 refine Wp.ret ?_
 refine To.bring 0 rfl ?_
 obtain rfl:=some_in h
 exact Qo1 ()
theorem C_mcase_Mod {x0 : Int} {x1 : Int}  {r : Int} (h : L_mcase_Mod x0 x1 = some r) : Meets Try.prog 22 [VP.of (x0), VP.of (x1)] (VP.of (r)) := by
 unfold L_mcase_Mod at h
 refine Meets.of Try.func22 rfl Try.ntmps22 rfl fun W A => ?_
 refine Qsr ?_
 refine Qa ?_
 refine Qns ?_
 refine Qsr ?_
 refine Qm ?_
 refine Q2 r_lss ?_
 refine Qnx ?_
 refine Qcd h (fun h=>?_) fun h=>?_
 ·refine Qsr ?_
  refine Qa ?_
  refine Qnx ?_
  refine Wp.ret ?_
  refine To.ret ?_
  obtain rfl:=some_in h
  exact Qe1
 ·refine Qkn ?_
  refine Qsr ?_
  refine Qm ?_
  refine Qm ?_
  obtain ⟨y1,hy1,h⟩:=Qbs h
  refine Qv (r_rem (look_t rfl) (look_t rfl) (modM_some hy1)) ?_
  refine Qm ?_
  refine Q2 r_add ?_
  refine Qm ?_
  obtain ⟨y2,hy2,h⟩:=Qbs h
  refine Qv (r_rem (look_t rfl) (look_t rfl) (modM_some hy2)) ?_
  refine Qa ?_
  refine Qnx ?_
  refine Wp.ret ?_
  obtain rfl:=some_in h
  exact Qe1
theorem C_shadow_question_fn1 {x0 : T_api_Installed} {x1 : Int}  {r : Bool} (h : L_shadow_question_fn1 x0 x1 = some r) : Meets Try.prog 125 [VP.of (x0), VP.ptr x1] (VP.of (r)) := by
 unfold L_shadow_question_fn1 at h
 refine Meets.of Try.func125 rfl Try.ntmps125 rfl fun W A => ?_
 refine Qsr ?_
 refine Qbx fun p1 => ?_
 refine Qa ?_
 refine Qnr ?_
 refine Q1 (r_fa fd92_1) ?_
 refine Qld 0 le_T_api_Installed_Number ty3 ?_
 refine Q1 (r_loadp ty3) ?_
 refine Q2 r_eql ?_
 refine Qa ?_
 refine Qnx ?_
 refine Wp.ret ?_
 obtain rfl:=some_in h
 exact Qe1
theorem C_slices_IndexFunc_api_Installed {x0 : List T_api_Installed} {x1 : T_api_Installed → Option Bool}  {r : Int} (h : L_slices_IndexFunc_api_Installed x0 x1 = some r) : Meets Try.prog 117 [VP.of (x0), VP.fn1 Try.prog x1] (VP.of (r)) := by
 unfold L_slices_IndexFunc_api_Installed at h
 refine Meets.of Try.func117 rfl Try.ntmps117 rfl fun W A => ?_
 refine Qsr ?_
 refine Qa ?_
 refine Qns ?_
 refine Qsr ?_
 refine Qm ?_
 refine Q1 (r_len Try.underlying84) ?_
 refine Qm ?_
 refine Qnx ?_
 refine Wp.block ?_
 obtain ⟨e1,hl,h⟩:=Qbs h
 refine Qlp (γ:=Unit) (δ:=Unit) hl [0, 1, 7] (fun s1 g1 => [(4, VP.of (0 : Int)), (8, VP.of (s1))]) (fun s1 g1 => []) (fun q1 => Sum.elim (fun q1 => Exit.exit 0) (fun q1 => Exit.ret) q1) (fun q1 g1 => Sum.elim (fun q1 => [(4, VP.of (0 : Int)), (8, VP.of (q1.1)), (9, VP.of (q1.2))]) (fun q1 => [(4, VP.of (q1.1)), (5, VP.of (q1.2.1)), (8, VP.of (q1.2.2.1)), (9, VP.of (q1.2.2.2.1)), (16, VP.of (q1.2.2.2.2))]) q1) (fun q1 g1 => Sum.elim (fun q1 => []) (fun q1 => []) q1) () (fun s1 r h g1 => ?_) fun g1 => ?_
 ·clear hl
  refine Qsr ?_
  refine Q2 r_lss ?_
  refine Qns ?_
  refine Qcd h (fun h=>?_) fun h=>?_
  ·refine Qkn ?_
   refine Wp.seq ?_
   refine Wp.block ?_
   refine Qsr ?_
   refine Qm ?_
   refine Qa ?_
   refine Qnr ?_
   refine Qm ?_
   refine Qm ?_
   refine Qm ?_
   obtain ⟨k1,hk1,h⟩:=Qbs h
   refine Qix hk1 Try.underlying84 ty92 ?_
   refine Q1 (r_loadp ty92) ?_
   obtain ⟨y1,hy1,h⟩:=Qbs h
   refine Qv (r_callF1 (look_t rfl) (look_t rfl) hy1) ?_
   refine Qnx ?_
   refine Qcd h (fun h=>?_) fun h=>?_
   ·refine Qsr ?_
    refine Qm ?_
    refine Qa ?_
    refine Qnx ?_
    refine Wp.ret ?_
    refine To.bret ?_
    refine To.ret ?_
    obtain rfl:=some_in h
    exact Qlv () 0
   ·refine Wp.skip ?_
    refine To.bnorm ?_
    refine To.next ?_
    refine Wp.reg ?_
    refine Q2 r_add ?_
    refine Qm ?_
    refine Sq.nil ?_
    obtain rfl:=some_in h
    exact Qrd () 0
  ·refine Wp.exit ?_
   refine To.exit ?_
   obtain rfl:=some_in h
   exact Qlv () 0
 ·clear hl
  rcases e1 with e1 | e1
  ·simp only [Sum.elim_inl] at h
   refine To.bexit ?_
   refine To.next ?_
   refine Qsr ?_
   refine Qa ?_
   refine Qnx ?_
   refine Wp.ret ?_
   obtain rfl:=some_in h
   exact Qe1
  ·simp only [Sum.elim_inr] at h
   refine To.bret ?_
   refine To.ret ?_
   obtain rfl:=some_in h
   exact Qe1
theorem C_check_TableOf_fn1 {x0 : T_api_Table} {x1 : Int}  {r : Bool} (h : L_check_TableOf_fn1 x0 x1 = some r) : Meets Try.prog 154 [VP.of (x0), VP.ptr x1] (VP.of (r)) := by
 unfold L_check_TableOf_fn1 at h
 refine Meets.of Try.func154 rfl Try.ntmps154 rfl fun W A => ?_
 refine Qsr ?_
 refine Qbx fun p1 => ?_
 refine Qa ?_
 refine Qnr ?_
 refine Q1 (r_fa fd136_0) ?_
 refine Qld 0 le_T_api_Table_ID ty3 ?_
 refine Q1 (r_loadp ty3) ?_
 refine Q2 r_eql ?_
 refine Qa ?_
 refine Qnx ?_
 refine Wp.ret ?_
 obtain rfl:=some_in h
 exact Qe1
theorem C_slices_IndexFunc_api_Table {x0 : List T_api_Table} {x1 : T_api_Table → Option Bool}  {r : Int} (h : L_slices_IndexFunc_api_Table x0 x1 = some r) : Meets Try.prog 153 [VP.of (x0), VP.fn1 Try.prog x1] (VP.of (r)) := by
 unfold L_slices_IndexFunc_api_Table at h
 refine Meets.of Try.func153 rfl Try.ntmps153 rfl fun W A => ?_
 refine Qsr ?_
 refine Qa ?_
 refine Qns ?_
 refine Qsr ?_
 refine Qm ?_
 refine Q1 (r_len Try.underlying28) ?_
 refine Qm ?_
 refine Qnx ?_
 refine Wp.block ?_
 obtain ⟨e1,hl,h⟩:=Qbs h
 refine Qlp (γ:=Unit) (δ:=Unit) hl [0, 1, 7] (fun s1 g1 => [(4, VP.of (0 : Int)), (8, VP.of (s1))]) (fun s1 g1 => []) (fun q1 => Sum.elim (fun q1 => Exit.exit 0) (fun q1 => Exit.ret) q1) (fun q1 g1 => Sum.elim (fun q1 => [(4, VP.of (0 : Int)), (8, VP.of (q1.1)), (9, VP.of (q1.2))]) (fun q1 => [(4, VP.of (q1.1)), (5, VP.of (q1.2.1)), (8, VP.of (q1.2.2.1)), (9, VP.of (q1.2.2.2.1)), (16, VP.of (q1.2.2.2.2))]) q1) (fun q1 g1 => Sum.elim (fun q1 => []) (fun q1 => []) q1) () (fun s1 r h g1 => ?_) fun g1 => ?_
 ·clear hl
  refine Qsr ?_
  refine Q2 r_lss ?_
  refine Qns ?_
  refine Qcd h (fun h=>?_) fun h=>?_
  ·refine Qkn ?_
   refine Wp.seq ?_
   refine Wp.block ?_
   refine Qsr ?_
   refine Qm ?_
   refine Qa ?_
   refine Qnr ?_
   refine Qm ?_
   refine Qm ?_
   refine Qm ?_
   obtain ⟨k1,hk1,h⟩:=Qbs h
   refine Qix hk1 Try.underlying28 ty136 ?_
   refine Q1 (r_loadp ty136) ?_
   obtain ⟨y1,hy1,h⟩:=Qbs h
   refine Qv (r_callF1 (look_t rfl) (look_t rfl) hy1) ?_
   refine Qnx ?_
   refine Qcd h (fun h=>?_) fun h=>?_
   ·refine Qsr ?_
    refine Qm ?_
    refine Qa ?_
    refine Qnx ?_
    refine Wp.ret ?_
    refine To.bret ?_
    refine To.ret ?_
    obtain rfl:=some_in h
    exact Qlv () 0
   ·refine Wp.skip ?_
    refine To.bnorm ?_
    refine To.next ?_
    refine Wp.reg ?_
    refine Q2 r_add ?_
    refine Qm ?_
    refine Sq.nil ?_
    obtain rfl:=some_in h
    exact Qrd () 0
  ·refine Wp.exit ?_
   refine To.exit ?_
   obtain rfl:=some_in h
   exact Qlv () 0
 ·clear hl
  rcases e1 with e1 | e1
  ·simp only [Sum.elim_inl] at h
   refine To.bexit ?_
   refine To.next ?_
   refine Qsr ?_
   refine Qa ?_
   refine Qnx ?_
   refine Wp.ret ?_
   obtain rfl:=some_in h
   exact Qe1
  ·simp only [Sum.elim_inr] at h
   refine To.bret ?_
   refine To.ret ?_
   obtain rfl:=some_in h
   exact Qe1
theorem C_slices_IndexFunc_api_Key {x0 : List T_api_Key} {x1 : T_api_Key → Option Bool}  {r : Int} (h : L_slices_IndexFunc_api_Key x0 x1 = some r) : Meets Try.prog 155 [VP.of (x0), VP.fn1 Try.prog x1] (VP.of (r)) := by
 unfold L_slices_IndexFunc_api_Key at h
 refine Meets.of Try.func155 rfl Try.ntmps155 rfl fun W A => ?_
 refine Qsr ?_
 refine Qa ?_
 refine Qns ?_
 refine Qsr ?_
 refine Qm ?_
 refine Q1 (r_len Try.underlying134) ?_
 refine Qm ?_
 refine Qnx ?_
 refine Wp.block ?_
 obtain ⟨e1,hl,h⟩:=Qbs h
 refine Qlp (γ:=Unit) (δ:=Unit) hl [0, 1, 7] (fun s1 g1 => [(4, VP.of (0 : Int)), (8, VP.of (s1))]) (fun s1 g1 => []) (fun q1 => Sum.elim (fun q1 => Exit.exit 0) (fun q1 => Exit.ret) q1) (fun q1 g1 => Sum.elim (fun q1 => [(4, VP.of (0 : Int)), (8, VP.of (q1.1)), (9, VP.of (q1.2))]) (fun q1 => [(4, VP.of (q1.1)), (5, VP.of (q1.2.1)), (8, VP.of (q1.2.2.1)), (9, VP.of (q1.2.2.2.1)), (16, VP.of (q1.2.2.2.2))]) q1) (fun q1 g1 => Sum.elim (fun q1 => []) (fun q1 => []) q1) () (fun s1 r h g1 => ?_) fun g1 => ?_
 ·clear hl
  refine Qsr ?_
  refine Q2 r_lss ?_
  refine Qns ?_
  refine Qcd h (fun h=>?_) fun h=>?_
  ·refine Qkn ?_
   refine Wp.seq ?_
   refine Wp.block ?_
   refine Qsr ?_
   refine Qm ?_
   refine Qa ?_
   refine Qnr ?_
   refine Qm ?_
   refine Qm ?_
   refine Qm ?_
   obtain ⟨k1,hk1,h⟩:=Qbs h
   refine Qix hk1 Try.underlying134 ty163 ?_
   refine Q1 (r_loadp ty163) ?_
   obtain ⟨y1,hy1,h⟩:=Qbs h
   refine Qv (r_callF1 (look_t rfl) (look_t rfl) hy1) ?_
   refine Qnx ?_
   refine Qcd h (fun h=>?_) fun h=>?_
   ·refine Qsr ?_
    refine Qm ?_
    refine Qa ?_
    refine Qnx ?_
    refine Wp.ret ?_
    refine To.bret ?_
    refine To.ret ?_
    obtain rfl:=some_in h
    exact Qlv () 0
   ·refine Wp.skip ?_
    refine To.bnorm ?_
    refine To.next ?_
    refine Wp.reg ?_
    refine Q2 r_add ?_
    refine Qm ?_
    refine Sq.nil ?_
    obtain rfl:=some_in h
    exact Qrd () 0
  ·refine Wp.exit ?_
   refine To.exit ?_
   obtain rfl:=some_in h
   exact Qlv () 0
 ·clear hl
  rcases e1 with e1 | e1
  ·simp only [Sum.elim_inl] at h
   refine To.bexit ?_
   refine To.next ?_
   refine Qsr ?_
   refine Qa ?_
   refine Qnx ?_
   refine Wp.ret ?_
   obtain rfl:=some_in h
   exact Qe1
  ·simp only [Sum.elim_inr] at h
   refine To.bret ?_
   refine To.ret ?_
   obtain rfl:=some_in h
   exact Qe1
theorem C_shadow_question_fn2 {x0 : T_api_Key}  {r : Bool} (h : L_shadow_question_fn2 x0 = some r) : Meets Try.prog 128 [VP.of (x0)] (VP.of (r)) := by
 unfold L_shadow_question_fn2 at h
 refine Meets.of Try.func128 rfl Try.ntmps128 rfl fun W A => ?_
 refine Qsr ?_
 refine Qbx fun p1 => ?_
 refine Qa ?_
 refine Qnr ?_
 refine Q1 (r_fa fd163_2) ?_
 refine Qld 0 le_T_api_Key_Kind ty3 ?_
 refine Q2 r_eql ?_
 refine Qa ?_
 refine Qnx ?_
 refine Wp.ret ?_
 obtain rfl:=some_in h
 exact Qe1
theorem C_check_FieldOf_fn1 {x0 : T_api_Field} {x1 : Int}  {r : Bool} (h : L_check_FieldOf_fn1 x0 x1 = some r) : Meets Try.prog 183 [VP.of (x0), VP.ptr x1] (VP.of (r)) := by
 unfold L_check_FieldOf_fn1 at h
 refine Meets.of Try.func183 rfl Try.ntmps183 rfl fun W A => ?_
 refine Qsr ?_
 refine Qbx fun p1 => ?_
 refine Qa ?_
 refine Qnr ?_
 refine Q1 (r_fa fd123_0) ?_
 refine Qld 0 le_T_api_Field_ID ty3 ?_
 refine Q1 (r_loadp ty3) ?_
 refine Q2 r_eql ?_
 refine Qa ?_
 refine Qnx ?_
 refine Wp.ret ?_
 obtain rfl:=some_in h
 exact Qe1
theorem C_slices_IndexFunc_api_Field {x0 : List T_api_Field} {x1 : T_api_Field → Option Bool}  {r : Int} (h : L_slices_IndexFunc_api_Field x0 x1 = some r) : Meets Try.prog 182 [VP.of (x0), VP.fn1 Try.prog x1] (VP.of (r)) := by
 unfold L_slices_IndexFunc_api_Field at h
 refine Meets.of Try.func182 rfl Try.ntmps182 rfl fun W A => ?_
 refine Qsr ?_
 refine Qa ?_
 refine Qns ?_
 refine Qsr ?_
 refine Qm ?_
 refine Q1 (r_len Try.underlying24) ?_
 refine Qm ?_
 refine Qnx ?_
 refine Wp.block ?_
 obtain ⟨e1,hl,h⟩:=Qbs h
 refine Qlp (γ:=Unit) (δ:=Unit) hl [0, 1, 7] (fun s1 g1 => [(4, VP.of (0 : Int)), (8, VP.of (s1))]) (fun s1 g1 => []) (fun q1 => Sum.elim (fun q1 => Exit.exit 0) (fun q1 => Exit.ret) q1) (fun q1 g1 => Sum.elim (fun q1 => [(4, VP.of (0 : Int)), (8, VP.of (q1.1)), (9, VP.of (q1.2))]) (fun q1 => [(4, VP.of (q1.1)), (5, VP.of (q1.2.1)), (8, VP.of (q1.2.2.1)), (9, VP.of (q1.2.2.2.1)), (16, VP.of (q1.2.2.2.2))]) q1) (fun q1 g1 => Sum.elim (fun q1 => []) (fun q1 => []) q1) () (fun s1 r h g1 => ?_) fun g1 => ?_
 ·clear hl
  refine Qsr ?_
  refine Q2 r_lss ?_
  refine Qns ?_
  refine Qcd h (fun h=>?_) fun h=>?_
  ·refine Qkn ?_
   refine Wp.seq ?_
   refine Wp.block ?_
   refine Qsr ?_
   refine Qm ?_
   refine Qa ?_
   refine Qnr ?_
   refine Qm ?_
   refine Qm ?_
   refine Qm ?_
   obtain ⟨k1,hk1,h⟩:=Qbs h
   refine Qix hk1 Try.underlying24 ty123 ?_
   refine Q1 (r_loadp ty123) ?_
   obtain ⟨y1,hy1,h⟩:=Qbs h
   refine Qv (r_callF1 (look_t rfl) (look_t rfl) hy1) ?_
   refine Qnx ?_
   refine Qcd h (fun h=>?_) fun h=>?_
   ·refine Qsr ?_
    refine Qm ?_
    refine Qa ?_
    refine Qnx ?_
    refine Wp.ret ?_
    refine To.bret ?_
    refine To.ret ?_
    obtain rfl:=some_in h
    exact Qlv () 0
   ·refine Wp.skip ?_
    refine To.bnorm ?_
    refine To.next ?_
    refine Wp.reg ?_
    refine Q2 r_add ?_
    refine Qm ?_
    refine Sq.nil ?_
    obtain rfl:=some_in h
    exact Qrd () 0
  ·refine Wp.exit ?_
   refine To.exit ?_
   obtain rfl:=some_in h
   exact Qlv () 0
 ·clear hl
  rcases e1 with e1 | e1
  ·simp only [Sum.elim_inl] at h
   refine To.bexit ?_
   refine To.next ?_
   refine Qsr ?_
   refine Qa ?_
   refine Qnx ?_
   refine Wp.ret ?_
   obtain rfl:=some_in h
   exact Qe1
  ·simp only [Sum.elim_inr] at h
   refine To.bret ?_
   refine To.ret ?_
   obtain rfl:=some_in h
   exact Qe1
theorem C_value_within {x0 : Int}  {r : Int} (h : L_value_within x0 = some r) : Meets Try.prog 193 [VP.of (x0)] (VP.of (r)) := by
 unfold L_value_within at h
 refine Meets.of Try.func193 rfl Try.ntmps193 rfl fun W A => ?_
 refine Qsr ?_
 refine Qa ?_
 refine Qnr ?_
 refine Qm ?_
 refine Q2 r_max ?_
 refine Q2 r_min ?_
 refine Qa ?_
 refine Qnx ?_
 refine Wp.ret ?_
 obtain rfl:=some_in h
 exact Qe1
theorem C_value_Right {x0 : T_api_Value} {x1 : Int}  {r : T_api_Value} (h : L_value_Right x0 x1 = some r) : Meets Try.prog 194 [VP.of (x0), VP.of (x1)] (VP.of (r)) := by
 unfold L_value_Right at h
 refine Meets.of Try.func194 rfl Try.ntmps194 rfl fun W A => ?_
 refine Qsr ?_
 refine Qbx fun p1 => ?_
 refine Qal zr47 fun p2 => ?_
 refine Qns ?_
 refine Wp.block ?_
 refine Qsr ?_
 refine Qm ?_
 refine Q2 r_leq ?_
 refine Qa ?_
 refine Qnx ?_
 refine Qcd h (fun h=>?_) fun h=>?_
 ·refine Qsr ?_
  refine Ql0 1 ty47 ?_
  refine Qs0 0 ty47 ?_
  refine Qnx ?_
  refine Wp.ret ?_
  refine To.bret ?_
  refine To.ret ?_
  obtain rfl:=some_in h
  exact To.end1 rfl (Qrc 0 ty47)
 ·refine Qsr ?_
  refine Qm ?_
  refine Q2 r_geq ?_
  refine Qa ?_
  refine Qnx ?_
  refine Qcd h (fun h=>?_) fun h=>?_
  ·refine Qsr ?_
   refine Q1 (r_fa fd47_0) ?_
   refine Qld 1 le_T_api_Value_Hi ty45 ?_
   refine Qm ?_
   refine Q2 r_sub ?_
   refine Q1 (r_ci64 Try.underlying3 Try.underlying173) ?_
   refine Q2 r_shr64 ?_
   obtain ⟨z1,hz1,h⟩:=Qbs h
   refine Qn hz1 (r_build (b := ({ (default : T_api_Value) with f_Lo := x0.f_Hi >>> (BitVec.ofInt 64 (w64 (x1 - 64))).toNat } : T_api_Value)) rfl bu47 zr47 (.cons le_T_api_Value_Lo rfl (look_t rfl) rfl (.nil))) ?_
   refine Qs0 0 ty47 ?_
   refine Qnx ?_
   refine Wp.ret ?_
   refine To.bret ?_
   refine To.ret ?_
   obtain rfl:=some_in h
   exact To.end1 rfl (Qrc 0 ty47)
  ·refine Wp.skip ?_
   refine To.bnorm ?_
   refine To.next ?_
   refine Qsr ?_
   refine Q1 (r_fa fd47_0) ?_
   refine Qld 1 le_T_api_Value_Hi ty45 ?_
   refine Qm ?_
   refine Q1 (r_ci64 Try.underlying3 Try.underlying173) ?_
   refine Q2 r_shr64 ?_
   refine Q1 (r_fa fd47_1) ?_
   refine Qld 1 le_T_api_Value_Lo ty45 ?_
   refine Qm ?_
   refine Q1 (r_ci64 Try.underlying3 Try.underlying173) ?_
   refine Q2 r_shr64 ?_
   refine Q1 (r_fa fd47_0) ?_
   refine Qld 1 le_T_api_Value_Hi ty45 ?_
   refine Qm ?_
   refine Q2 r_sub ?_
   refine Q1 (r_ci64 Try.underlying3 Try.underlying173) ?_
   refine Q2 r_shl64 ?_
   obtain ⟨z2,hz2,h⟩:=Qbs h
   refine Qn hz2 (r_or64 (look_t rfl) (look_t rfl)) ?_
   obtain ⟨z3,hz3,h⟩:=Qbs h
   refine Qn hz3 (r_build (b := { f_Hi := x0.f_Hi >>> (BitVec.ofInt 64 x1).toNat, f_Lo := z2 : T_api_Value }) rfl bu47 zr47 (.cons le_T_api_Value_Hi rfl (look_t rfl) rfl (.cons le_T_api_Value_Lo rfl (look_t rfl) rfl (.nil)))) ?_
   refine Qs0 0 ty47 ?_
   refine Qnx ?_
   refine Wp.ret ?_
   obtain rfl:=some_in h
   exact To.end1 rfl (Qrc 0 ty47)
theorem C_value_Xor {x0 : T_api_Value} {x1 : T_api_Value}  {r : T_api_Value} (h : L_value_Xor x0 x1 = some r) : Meets Try.prog 187 [VP.of (x0), VP.of (x1)] (VP.of (r)) := by
 unfold L_value_Xor at h
 refine Meets.of Try.func187 rfl Try.ntmps187 rfl fun W A => ?_
 refine Qsr ?_
 refine Qbx fun p1 => ?_
 refine Qbx fun p2 => ?_
 refine Qal zr47 fun p3 => ?_
 refine Qnr ?_
 refine Q1 (r_fa fd47_0) ?_
 refine Qld 2 le_T_api_Value_Hi ty45 ?_
 refine Q1 (r_fa fd47_0) ?_
 refine Qld 1 le_T_api_Value_Hi ty45 ?_
 refine Q2 r_xor64 ?_
 refine Q1 (r_fa fd47_1) ?_
 refine Qld 2 le_T_api_Value_Lo ty45 ?_
 refine Q1 (r_fa fd47_1) ?_
 refine Qld 1 le_T_api_Value_Lo ty45 ?_
 refine Q2 r_xor64 ?_
 obtain ⟨z1,hz1,h⟩:=Qbs h
 refine Qn hz1 (r_build (b := { f_Hi := x0.f_Hi ^^^ x1.f_Hi, f_Lo := x0.f_Lo ^^^ x1.f_Lo : T_api_Value }) rfl bu47 zr47 (.cons le_T_api_Value_Hi rfl (look_t rfl) rfl (.cons le_T_api_Value_Lo rfl (look_t rfl) rfl (.nil)))) ?_
 refine Qs0 0 ty47 ?_
 refine Qnx ?_
 refine Wp.ret ?_
 obtain rfl:=some_in h
 exact To.end1 rfl (Qrc 0 ty47)
theorem C_value_And {x0 : T_api_Value} {x1 : T_api_Value}  {r : T_api_Value} (h : L_value_And x0 x1 = some r) : Meets Try.prog 158 [VP.of (x0), VP.of (x1)] (VP.of (r)) := by
 unfold L_value_And at h
 refine Meets.of Try.func158 rfl Try.ntmps158 rfl fun W A => ?_
 refine Qsr ?_
 refine Qbx fun p1 => ?_
 refine Qbx fun p2 => ?_
 refine Qal zr47 fun p3 => ?_
 refine Qnr ?_
 refine Q1 (r_fa fd47_0) ?_
 refine Qld 2 le_T_api_Value_Hi ty45 ?_
 refine Q1 (r_fa fd47_0) ?_
 refine Qld 1 le_T_api_Value_Hi ty45 ?_
 refine Q2 r_and64 ?_
 refine Q1 (r_fa fd47_1) ?_
 refine Qld 2 le_T_api_Value_Lo ty45 ?_
 refine Q1 (r_fa fd47_1) ?_
 refine Qld 1 le_T_api_Value_Lo ty45 ?_
 refine Q2 r_and64 ?_
 obtain ⟨z1,hz1,h⟩:=Qbs h
 refine Qn hz1 (r_build (b := { f_Hi := x0.f_Hi &&& x1.f_Hi, f_Lo := x0.f_Lo &&& x1.f_Lo : T_api_Value }) rfl bu47 zr47 (.cons le_T_api_Value_Hi rfl (look_t rfl) rfl (.cons le_T_api_Value_Lo rfl (look_t rfl) rfl (.nil)))) ?_
 refine Qs0 0 ty47 ?_
 refine Qnx ?_
 refine Wp.ret ?_
 obtain rfl:=some_in h
 exact To.end1 rfl (Qrc 0 ty47)
theorem C_shadow_winners {x0 : T_api_Schema} {x1 : List T_api_Installed} {x2 : T_api_Installed}  {r : (List T_api_Installed) × T_api_Schema × T_api_Installed} (h : L_shadow_winners x0 x1 x2 = some r) : Meets Try.prog 130 [VP.of (x0), VP.of (x1), VP.of (x2)] (VP.clo 159 [VP.ptr r.1, VP.ptr r.2.1, VP.ptr r.2.2]) := by
 unfold L_shadow_winners at h
 refine Meets.of Try.func130 rfl Try.ntmps130 rfl fun W A => ?_
 refine Qsr ?_
 refine Qbx fun p1 => ?_
 refine Qbx fun p2 => ?_
 refine Qbx fun p3 => ?_
 refine Qv (r_asg (look_e .nilFunc)) ?_
 refine Qnr ?_
 refine Sq.share (α := List T_api_Installed) 1 4 rfl rfl ?_
 refine Sq.share (α := T_api_Schema) 2 3 rfl rfl ?_
 refine Sq.share (α := T_api_Installed) 0 5 rfl rfl ?_
 refine Qv (r_mkI (f := 159) (τs := [VP.ptr x1, VP.ptr x0, VP.ptr x2]) ⟨look_t rfl, look_t rfl, look_t rfl, trivial⟩) ?_
 refine Qa ?_
 refine Qnx ?_
 refine Wp.ret ?_
 obtain rfl:=some_in h
 exact Qe1
theorem C_cmp_isNaN_int {x0 : Int}  {r : Bool} (h : L_cmp_isNaN_int x0 = some r) : Meets Try.prog 178 [VP.of (x0)] (VP.of (r)) := by
 unfold L_cmp_isNaN_int at h
 refine Meets.of Try.func178 rfl Try.ntmps178 rfl fun W A => ?_
 refine Qsr ?_
 refine Qa ?_
 refine Qnr ?_
 refine Qm ?_
 refine Qm ?_
 refine Q2 r_neq ?_
 refine Qa ?_
 refine Qnx ?_
 refine Wp.ret ?_
 obtain rfl:=some_in h
 exact Qe1
theorem C_entry_Prefix_fn1 {x0 : T_api_Key}  {r : Bool} (h : L_entry_Prefix_fn1 x0 = some r) : Meets Try.prog 179 [VP.of (x0)] (VP.of (r)) := by
 unfold L_entry_Prefix_fn1 at h
 refine Meets.of Try.func179 rfl Try.ntmps179 rfl fun W A => ?_
 refine Qsr ?_
 refine Qbx fun p1 => ?_
 refine Qa ?_
 refine Qnr ?_
 refine Q1 (r_fa fd163_2) ?_
 refine Qld 0 le_T_api_Key_Kind ty3 ?_
 refine Q2 r_eql ?_
 refine Qa ?_
 refine Qnx ?_
 refine Wp.ret ?_
 obtain rfl:=some_in h
 exact Qe1
theorem C_entry_first {x0 : List Int}  {r : Int} (h : L_entry_first x0 = some r) : Meets Try.prog 144 [VP.of (x0)] (VP.of (r)) := by
 unfold L_entry_first at h
 refine Meets.of Try.func144 rfl Try.ntmps144 rfl fun W A => ?_
 refine Qsr ?_
 refine Qa ?_
 refine Qns ?_
 refine Qsr ?_
 refine Qm ?_
 refine Q1 (r_len Try.underlying64) ?_
 refine Qm ?_
 refine Qnx ?_
 refine Wp.block ?_
 obtain ⟨e1,hl,h⟩:=Qbs h
 refine Qlp (γ:=Unit) (δ:=Unit) hl [0, 5, 6] (fun s1 g1 => [(2, VP.of (0 : Int)), (7, VP.of (s1))]) (fun s1 g1 => []) (fun q1 => Sum.elim (fun q1 => Exit.exit 0) (fun q1 => Exit.ret) q1) (fun q1 g1 => Sum.elim (fun q1 => [(2, VP.of (0 : Int)), (7, VP.of (q1.1)), (8, VP.of (q1.2))]) (fun q1 => [(2, VP.of (q1.1)), (4, VP.of (q1.2.1)), (7, VP.of (q1.2.2.1)), (8, VP.of (q1.2.2.2.1)), (12, VP.of (q1.2.2.2.2))]) q1) (fun q1 g1 => Sum.elim (fun q1 => []) (fun q1 => []) q1) () (fun s1 r h g1 => ?_) fun g1 => ?_
 ·clear hl
  refine Qsr ?_
  refine Q2 r_lss ?_
  refine Qns ?_
  refine Qcd h (fun h=>?_) fun h=>?_
  ·refine Qkn ?_
   refine Wp.seq ?_
   refine Wp.block ?_
   refine Qsr ?_
   obtain ⟨k1,hk1,h⟩:=Qbs h
   refine Qix hk1 Try.underlying64 ty3 ?_
   refine Q1 (r_loadp ty3) ?_
   refine Qa ?_
   refine Qnr ?_
   refine Qm ?_
   refine Q2 r_neq ?_
   refine Qnx ?_
   refine Qcd h (fun h=>?_) fun h=>?_
   ·refine Qsr ?_
    refine Qm ?_
    refine Qa ?_
    refine Qnx ?_
    refine Wp.ret ?_
    refine To.bret ?_
    refine To.ret ?_
    obtain rfl:=some_in h
    exact Qlv () 0
   ·refine Wp.skip ?_
    refine To.bnorm ?_
    refine To.next ?_
    refine Wp.reg ?_
    refine Q2 r_add ?_
    refine Qm ?_
    refine Sq.nil ?_
    obtain rfl:=some_in h
    exact Qrd () 0
  ·refine Wp.exit ?_
   refine To.exit ?_
   obtain rfl:=some_in h
   exact Qlv () 0
 ·clear hl
  rcases e1 with e1 | e1
  ·simp only [Sum.elim_inl] at h
   refine To.bexit ?_
   refine To.next ?_
   refine Qsr ?_
   refine Qa ?_
   refine Qnx ?_
   refine Wp.ret ?_
   obtain rfl:=some_in h
   exact Qe1
  ·simp only [Sum.elim_inr] at h
   refine To.bret ?_
   refine To.ret ?_
   obtain rfl:=some_in h
   exact Qe1
theorem C_slices_Clone_cube_Cube {x0 : List T_cube_Cube}  {r : (List T_cube_Cube)} (h : L_slices_Clone_cube_Cube x0 = some r) : Meets Try.prog 161 [VP.of (x0)] (VP.of (r)) := by
 unfold L_slices_Clone_cube_Cube at h
 refine Meets.of Try.func161 rfl Try.ntmps161 rfl fun W A => ?_
 refine Qsr ?_
 refine Qv (r_asg (look_nil (α := T_cube_Cube))) ?_
 refine Qns ?_
 refine Qsr ?_
 refine Qm ?_
 refine Qv (r_nil Try.underlying186 (look_t rfl)) ?_
 refine Qnx ?_
 refine Wp.condN (look_t rfl) (fun hx => ?_) ?_
 ·subst hx; replace h := clone_nil h; subst h
  have h : some ([] : List T_cube_Cube) = some [] := rfl
  refine Qsr ?_
  refine Qv (r_asg (look_nil (α := T_cube_Cube))) ?_
  refine Qnx ?_
  refine Wp.ret ?_
  refine To.ret ?_
  replace h := some_in h
  clear h
  exact Qe1
 ·refine Qkn ?_
  refine Qsr ?_
  refine Sq.bslO (α := T_cube_Cube) (r := ([] : List T_cube_Cube)) Try.underlying186 ty185 zr185 rfl rfl (.nil) rfl fun key1 => ?_
  refine Qm ?_
  obtain ⟨y1,hy1,h⟩:=Qbs h
  refine Qap 0 Try.underlying186 ty185 zr185 hy1 fun key2 cap1 => ?_
  refine Qa ?_
  refine Qnx ?_
  refine Wp.ret ?_
  refine To.freezeL (α := T_cube_Cube) 0 [2, 7] ⟨rfl, rfl, trivial⟩ rfl ?_
  obtain rfl:=some_in h
  exact Qe1
theorem C_cube_combined {x0 : Vector T_api_Value 4} {x1 : Vector T_api_Value 4} {x2 : T_api_Value → T_api_Value → Option T_api_Value}  {r : (Vector T_api_Value 4)} (h : L_cube_combined x0 x1 x2 = some r) : Meets Try.prog 186 [VP.of (x0), VP.of (x1), VP.fn2 Try.prog x2] (VP.of (r)) := by
 unfold L_cube_combined at h
 refine Meets.of Try.func186 rfl Try.ntmps186 rfl fun W A => ?_
 refine Qsr ?_
 refine Qbx fun p1 => ?_
 refine Qbx fun p2 => ?_
 refine Qal zr81 fun p3 => ?_
 refine Qns ?_
 refine Qsr ?_
 refine Qm ?_
 refine Qnx ?_
 refine Wp.block ?_
 obtain ⟨e1,hl,h⟩:=Qbs h
 refine Qlp (γ:=Unit) (δ:=Unit) hl [0, 1, 2, 3, 4, 6] (fun s1 g1 => [(8, VP.of (s1.1))]) (fun s1 g1 => [(2, ⟨some p1, .var (s1.2 : Vector T_api_Value 4)⟩)]) (fun q1 => Exit.exit 0) (fun q1 g1 => [(8, VP.of (q1.1)), (9, VP.of (q1.2.1))]) (fun q1 g1 => [(2, ⟨some p1, .var (q1.2.2 : Vector T_api_Value 4)⟩)]) () (fun s1 r h g1 => ?_) fun g1 => ?_
 ·clear hl
  refine Qsr ?_
  refine Q2 r_lss ?_
  refine Qns ?_
  refine Qcd h (fun h=>?_) fun h=>?_
  ·refine Qkn ?_
   refine Wp.seq ?_
   refine Wp.block ?_
   refine Qsr ?_
   refine Qm ?_
   refine Qa ?_
   refine Qnx ?_
   obtain ⟨k1,hk1,h⟩:=Qbs h
   obtain ⟨k2,hk2,h⟩:=Qbs h
   obtain ⟨y1,hy1,h⟩:=Qbs h
   obtain ⟨k3,hk3,h⟩:=Qbs h
   refine Wp.draw mixed 10 [some 11, some 12, some 13, some 14, some 15, some 16, some 17, some 18, some 19, some 20] [[], [], [], [2], [3], [], [5], [6], [1, 4, 7], [0]] [.val _, .val _, .val _, .val _, .val _, .val _, .val _, .val _, .val _, .val _] [false, false, false, false, false, false, false, false, false, false] (by kernel_rfl) rfl rfl rfl (fun ps1 => ⟨Hm, Hm, Hm, Hv fun L' hL => r_ia (k := k1) ar81 (look_t rfl) (look_t rfl) (idx_some hk1), Hld 2 ((Lens.id (Vector T_api_Value 4)).comp (Lens.idx (α := T_api_Value) 4 k1 (idx_some hk1).1)) ty47, Hm, Hv fun L' hL => r_ia (k := k2) ar81 (look_t rfl) (look_t rfl) (idx_some hk2), Hld 1 ((Lens.id (Vector T_api_Value 4)).comp (Lens.idx (α := T_api_Value) 4 k2 (idx_some hk2).1)) ty47, Hv fun L' hL => r_callF2 (look_t rfl) (look_t rfl) (look_t rfl) hy1, Hv fun L' hL => r_ia (k := k3) ar81 (look_t rfl) (look_t rfl) (idx_some hk3), trivial⟩) fun ps1 => ?_
   refine Qst 2 ((Lens.id (Vector T_api_Value 4)).comp (Lens.idx (α := T_api_Value) 4 k3 (idx_some hk3).1)) ty47 ?_
   refine Sq.nil ?_
   refine To.bnorm ?_
   refine To.next ?_
   refine Wp.reg ?_
   refine Q2 r_add ?_
   refine Qm ?_
   refine Sq.nil ?_
   obtain rfl:=some_in h
   exact Qrd () 0
  ·refine Wp.exit ?_
   refine To.exit ?_
   obtain rfl:=some_in h
   exact Qlv () 0
 ·clear hl
  refine To.bexit ?_
  refine To.next ?_
  refine Qsr ?_
  refine Ql0 2 ty81 ?_
  refine Qs0 0 ty81 ?_
  refine Qnx ?_
  refine Wp.ret ?_
  obtain rfl:=some_in h
  exact To.end1 rfl (Qrc 0 ty81)
theorem C_value_Or {x0 : T_api_Value} {x1 : T_api_Value}  {r : T_api_Value} (h : L_value_Or x0 x1 = some r) : Meets Try.prog 174 [VP.of (x0), VP.of (x1)] (VP.of (r)) := by
 unfold L_value_Or at h
 refine Meets.of Try.func174 rfl Try.ntmps174 rfl fun W A => ?_
 refine Qsr ?_
 refine Qbx fun p1 => ?_
 refine Qbx fun p2 => ?_
 refine Qal zr47 fun p3 => ?_
 refine Qnr ?_
 refine Q1 (r_fa fd47_0) ?_
 refine Qld 2 le_T_api_Value_Hi ty45 ?_
 refine Q1 (r_fa fd47_0) ?_
 refine Qld 1 le_T_api_Value_Hi ty45 ?_
 refine Q2 r_or64 ?_
 refine Q1 (r_fa fd47_1) ?_
 refine Qld 2 le_T_api_Value_Lo ty45 ?_
 refine Q1 (r_fa fd47_1) ?_
 refine Qld 1 le_T_api_Value_Lo ty45 ?_
 refine Q2 r_or64 ?_
 obtain ⟨z1,hz1,h⟩:=Qbs h
 refine Qn hz1 (r_build (b := { f_Hi := x0.f_Hi ||| x1.f_Hi, f_Lo := x0.f_Lo ||| x1.f_Lo : T_api_Value }) rfl bu47 zr47 (.cons le_T_api_Value_Hi rfl (look_t rfl) rfl (.cons le_T_api_Value_Lo rfl (look_t rfl) rfl (.nil)))) ?_
 refine Qs0 0 ty47 ?_
 refine Qnx ?_
 refine Wp.ret ?_
 obtain rfl:=some_in h
 exact To.end1 rfl (Qrc 0 ty47)
theorem C_slices_IndexFunc_cube_Cube {x0 : List T_cube_Cube} {x1 : T_cube_Cube → Option Bool}  {r : Int} (h : L_slices_IndexFunc_cube_Cube x0 x1 = some r) : Meets Try.prog 185 [VP.of (x0), VP.fn1 Try.prog x1] (VP.of (r)) := by
 unfold L_slices_IndexFunc_cube_Cube at h
 refine Meets.of Try.func185 rfl Try.ntmps185 rfl fun W A => ?_
 refine Qsr ?_
 refine Qa ?_
 refine Qns ?_
 refine Qsr ?_
 refine Qm ?_
 refine Q1 (r_len Try.underlying186) ?_
 refine Qm ?_
 refine Qnx ?_
 refine Wp.block ?_
 obtain ⟨e1,hl,h⟩:=Qbs h
 refine Qlp (γ:=Unit) (δ:=Unit) hl [0, 1, 7] (fun s1 g1 => [(4, VP.of (0 : Int)), (8, VP.of (s1))]) (fun s1 g1 => []) (fun q1 => Sum.elim (fun q1 => Exit.exit 0) (fun q1 => Exit.ret) q1) (fun q1 g1 => Sum.elim (fun q1 => [(4, VP.of (0 : Int)), (8, VP.of (q1.1)), (9, VP.of (q1.2))]) (fun q1 => [(4, VP.of (q1.1)), (5, VP.of (q1.2.1)), (8, VP.of (q1.2.2.1)), (9, VP.of (q1.2.2.2.1)), (16, VP.of (q1.2.2.2.2))]) q1) (fun q1 g1 => Sum.elim (fun q1 => []) (fun q1 => []) q1) () (fun s1 r h g1 => ?_) fun g1 => ?_
 ·clear hl
  refine Qsr ?_
  refine Q2 r_lss ?_
  refine Qns ?_
  refine Qcd h (fun h=>?_) fun h=>?_
  ·refine Qkn ?_
   refine Wp.seq ?_
   refine Wp.block ?_
   refine Qsr ?_
   refine Qm ?_
   refine Qa ?_
   refine Qnr ?_
   refine Qm ?_
   refine Qm ?_
   refine Qm ?_
   obtain ⟨k1,hk1,h⟩:=Qbs h
   refine Qix hk1 Try.underlying186 ty185 ?_
   refine Q1 (r_loadp ty185) ?_
   obtain ⟨y1,hy1,h⟩:=Qbs h
   refine Qv (r_callF1 (look_t rfl) (look_t rfl) hy1) ?_
   refine Qnx ?_
   refine Qcd h (fun h=>?_) fun h=>?_
   ·refine Qsr ?_
    refine Qm ?_
    refine Qa ?_
    refine Qnx ?_
    refine Wp.ret ?_
    refine To.bret ?_
    refine To.ret ?_
    obtain rfl:=some_in h
    exact Qlv () 0
   ·refine Wp.skip ?_
    refine To.bnorm ?_
    refine To.next ?_
    refine Wp.reg ?_
    refine Q2 r_add ?_
    refine Qm ?_
    refine Sq.nil ?_
    obtain rfl:=some_in h
    exact Qrd () 0
  ·refine Wp.exit ?_
   refine To.exit ?_
   obtain rfl:=some_in h
   exact Qlv () 0
 ·clear hl
  rcases e1 with e1 | e1
  ·simp only [Sum.elim_inl] at h
   refine To.bexit ?_
   refine To.next ?_
   refine Qsr ?_
   refine Qa ?_
   refine Qnx ?_
   refine Wp.ret ?_
   obtain rfl:=some_in h
   exact Qe1
  ·simp only [Sum.elim_inr] at h
   refine To.bret ?_
   refine To.ret ?_
   obtain rfl:=some_in h
   exact Qe1
theorem Co_slices_Clone_cube_Cube {x0 : List T_cube_Cube}  {r : (List T_cube_Cube)} (h : L_slices_Clone_cube_Cube x0 = some r) : MeetsO Try.prog 161 [VP.of (x0)] [] (δ := (Option Nat × Nat)) (fun d => VP.eq (slv d.1 (r).length d.2)) (fun d => [⟨d.1, .row 185 (r : List T_cube_Cube) d.2⟩]) := by
 unfold L_slices_Clone_cube_Cube at h
 refine MeetsO.of Try.func161 rfl Try.ntmps161 rfl fun W A => ?_
 refine Qsr ?_
 refine Sq.own (α := T_cube_Cube) 185 ?_
 refine Qv (r_asg look_own) ?_
 refine Qns ?_
 refine Qsr ?_
 refine Qm ?_
 refine Qv (r_nil Try.underlying186 (look_t rfl)) ?_
 refine Qnx ?_
 refine Wp.condN (look_t rfl) (fun hx => ?_) ?_
 ·subst hx; replace h := clone_nil h; subst h
  have h : some ([] : List T_cube_Cube) = some [] := rfl
  refine Qsr ?_
  refine Sq.own (α := T_cube_Cube) 185 ?_
  refine Qv (r_asg look_own) ?_
  refine Qnx ?_
  refine Wp.ret ?_
  refine To.ret ?_
  refine To.bring 0 rfl ?_
  replace h := some_in h
  clear h
  exact Qo1 (none, 0)
 ·refine Qkn ?_
  refine Qsr ?_
  refine Sq.bslO (α := T_cube_Cube) (r := ([] : List T_cube_Cube)) Try.underlying186 ty185 zr185 rfl rfl (.nil) rfl fun key1 => ?_
  refine Qm ?_
  obtain ⟨y1,hy1,h⟩:=Qbs h
  refine Qap 0 Try.underlying186 ty185 zr185 hy1 fun key2 cap1 => ?_
  refine Qa ?_
  refine Qnx ?_
  refine Wp.ret ?_
  refine To.bring 0 rfl ?_
  obtain rfl:=some_in h
  exact Qo1 (key2, cap1)
theorem C_cube_place {x0 : Int}  {r : Int × Int} (h : L_cube_place x0 = some r) : Meets Try.prog 171 [VP.of (x0)] (VP.tup [VP.of (r.1), VP.of (r.2)]) := by
 unfold L_cube_place at h
 refine Meets.of Try.func171 rfl Try.ntmps171 rfl fun W A => ?_
 refine Qsr ?_
 refine Qa ?_
 refine Qa ?_
 refine Qnr ?_
 refine Qm ?_
 obtain ⟨y1,hy1,h⟩:=Qbs h
 refine Qv (r_quo (look_t rfl) (look_int 128) (divM_some hy1)) ?_
 refine Qm ?_
 obtain ⟨y2,hy2,h⟩:=Qbs h
 refine Qv (r_rem (look_t rfl) (look_int 128) (modM_some hy2)) ?_
 refine Q2 r_sub ?_
 refine Qa ?_
 refine Qa ?_
 refine Qnx ?_
 refine Wp.ret ?_
 obtain rfl:=some_in h
 exact Qe2
theorem C_value_Of {x0 : BitVec 64}  {r : T_api_Value} (h : L_value_Of x0 = some r) : Meets Try.prog 173 [VP.of (x0)] (VP.of (r)) := by
 unfold L_value_Of at h
 refine Meets.of Try.func173 rfl Try.ntmps173 rfl fun W A => ?_
 refine Qsr ?_
 refine Qal zr47 fun p1 => ?_
 refine Qnr ?_
 refine Qm ?_
 refine Qbd bu47 zr47 ({ (default : T_api_Value) with f_Lo := x0 } : T_api_Value) (Qfl le_T_api_Value_Lo .nil) ?_
 refine Qs0 0 ty47 ?_
 refine Qnx ?_
 refine Wp.ret ?_
 obtain rfl:=some_in h
 exact To.end1 rfl (Qrc 0 ty47)
theorem C_value_Left {x0 : T_api_Value} {x1 : Int}  {r : T_api_Value} (h : L_value_Left x0 x1 = some r) : Meets Try.prog 172 [VP.of (x0), VP.of (x1)] (VP.of (r)) := by
 unfold L_value_Left at h
 refine Meets.of Try.func172 rfl Try.ntmps172 rfl fun W A => ?_
 refine Qsr ?_
 refine Qbx fun p1 => ?_
 refine Qal zr47 fun p2 => ?_
 refine Qns ?_
 refine Wp.block ?_
 refine Qsr ?_
 refine Qm ?_
 refine Q2 r_leq ?_
 refine Qa ?_
 refine Qnx ?_
 refine Qcd h (fun h=>?_) fun h=>?_
 ·refine Qsr ?_
  refine Ql0 1 ty47 ?_
  refine Qs0 0 ty47 ?_
  refine Qnx ?_
  refine Wp.ret ?_
  refine To.bret ?_
  refine To.ret ?_
  obtain rfl:=some_in h
  exact To.end1 rfl (Qrc 0 ty47)
 ·refine Qsr ?_
  refine Qm ?_
  refine Q2 r_geq ?_
  refine Qa ?_
  refine Qnx ?_
  refine Qcd h (fun h=>?_) fun h=>?_
  ·refine Qsr ?_
   refine Q1 (r_fa fd47_1) ?_
   refine Qld 1 le_T_api_Value_Lo ty45 ?_
   refine Qm ?_
   refine Q2 r_sub ?_
   refine Q1 (r_ci64 Try.underlying3 Try.underlying173) ?_
   refine Q2 r_shl64 ?_
   obtain ⟨z1,hz1,h⟩:=Qbs h
   refine Qn hz1 (r_build (b := ({ (default : T_api_Value) with f_Hi := x0.f_Lo <<< (BitVec.ofInt 64 (w64 (x1 - 64))).toNat } : T_api_Value)) rfl bu47 zr47 (.cons le_T_api_Value_Hi rfl (look_t rfl) rfl (.nil))) ?_
   refine Qs0 0 ty47 ?_
   refine Qnx ?_
   refine Wp.ret ?_
   refine To.bret ?_
   refine To.ret ?_
   obtain rfl:=some_in h
   exact To.end1 rfl (Qrc 0 ty47)
  ·refine Wp.skip ?_
   refine To.bnorm ?_
   refine To.next ?_
   refine Qsr ?_
   refine Q1 (r_fa fd47_0) ?_
   refine Qld 1 le_T_api_Value_Hi ty45 ?_
   refine Qm ?_
   refine Q1 (r_ci64 Try.underlying3 Try.underlying173) ?_
   refine Q2 r_shl64 ?_
   refine Q1 (r_fa fd47_1) ?_
   refine Qld 1 le_T_api_Value_Lo ty45 ?_
   refine Qm ?_
   refine Q2 r_sub ?_
   refine Q1 (r_ci64 Try.underlying3 Try.underlying173) ?_
   refine Q2 r_shr64 ?_
   obtain ⟨z2,hz2,h⟩:=Qbs h
   refine Qn hz2 (r_or64 (look_t rfl) (look_t rfl)) ?_
   refine Q1 (r_fa fd47_1) ?_
   refine Qld 1 le_T_api_Value_Lo ty45 ?_
   refine Qm ?_
   refine Q1 (r_ci64 Try.underlying3 Try.underlying173) ?_
   refine Q2 r_shl64 ?_
   obtain ⟨z3,hz3,h⟩:=Qbs h
   refine Qn hz3 (r_build (b := { f_Hi := z2, f_Lo := x0.f_Lo <<< (BitVec.ofInt 64 x1).toNat : T_api_Value }) rfl bu47 zr47 (.cons le_T_api_Value_Hi rfl (look_t rfl) rfl (.cons le_T_api_Value_Lo rfl (look_t rfl) rfl (.nil)))) ?_
   refine Qs0 0 ty47 ?_
   refine Qnx ?_
   refine Wp.ret ?_
   obtain rfl:=some_in h
   exact To.end1 rfl (Qrc 0 ty47)
end Go.Proofs.Ytodajdohokmjnaa
