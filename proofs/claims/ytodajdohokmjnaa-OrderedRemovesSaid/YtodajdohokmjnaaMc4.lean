/-
  Each function meets its functional program. Conditions: none.
-/
import Derived.Test.YtodajdohokmjnaaMc1
import Derived.Test.YtodajdohokmjnaaMc2
import Derived.Test.YtodajdohokmjnaaMc3
import Derived.Test.YtodajdohokmjnaaMc0
namespace Go.Proofs.Ytodajdohokmjnaa
open Go Gv
set_option linter.unusedVariables false
set_option linter.unusedSimpArgs false
set_option maxRecDepth 100000
set_option maxHeartbeats 2000000
theorem C_entry_Matches {x0 : T_api_Schema} {x1 : T_api_Entry} {x2 : Vector T_api_Value 4}  {r : Bool} (h : L_entry_Matches x0 x1 x2 = some r) : Meets Try.prog 115 [VP.of (x0), VP.of (x1), VP.of (x2)] (VP.of (r)) := by
 unfold L_entry_Matches at h
 refine Meets.of Try.func115 rfl Try.ntmps115 rfl fun W A => ?_
 refine Qsr ?_
 refine Qbx fun p1 => ?_
 refine Qbx fun p2 => ?_
 refine Qbx fun p3 => ?_
 refine Qa ?_
 refine Qnr ?_
 refine Ql0 2 ty33 ?_
 refine Ql0 1 ty89 ?_
 obtain ⟨y1,hy1,h⟩:=Qbs h
 refine Qcl en139 (C_entry_table hy1) ?_
 refine Qm ?_
 refine Qxt ?_
 refine Qxt ?_
 refine Qal zr136 fun p4 => ?_
 refine Qs0 0 ty136 ?_
 refine Qa ?_
 refine Qns ?_
 refine Qsr ?_
 refine Qm ?_
 refine Q1 r_not ?_
 refine Qnx ?_
 refine Qcd h (fun h=>?_) fun h=>?_
 ·refine Qsr ?_
  refine Qa ?_
  refine Qnx ?_
  refine Wp.ret ?_
  refine To.ret ?_
  obtain rfl:=some_in h
  exact Qe1
 ·refine Qkn ?_
  refine Wp.seq ?_
  refine Qsr ?_
  refine Q1 (r_fa fd136_2) ?_
  refine Qld 0 le_T_api_Table_Keys ty134 ?_
  refine Q1 (r_len Try.underlying134) ?_
  refine Qm ?_
  refine Qnx ?_
  refine Wp.block ?_
  obtain ⟨e1,hl,h⟩:=Qbs h
  refine Qlp (γ:=Unit) (δ:=Unit) hl [0, 1, 2, 3, 4, 5, 6, 7, 8, 18, 20, 21] (fun s1 g1 => [(22, VP.of (s1))]) (fun s1 g1 => []) (fun q1 => Sum.elim (fun q1 => Exit.exit 0) (fun q1 => Exit.ret) q1) (fun q1 g1 => Sum.elim (fun q1 => [(22, VP.of (q1.1)), (23, VP.of (q1.2))]) (fun q1 => [(9, VP.of (q1.1)), (22, VP.of (q1.2.1)), (23, VP.of (q1.2.2.1)), (52, VP.of (q1.2.2.2))]) q1) (fun q1 g1 => Sum.elim (fun q1 => []) (fun q1 => []) q1) () (fun s1 r h g1 => ?_) fun g1 => ?_
  ·clear hl
   refine Qsr ?_
   refine Q2 r_lss ?_
   refine Qns ?_
   refine Qcd h (fun h=>?_) fun h=>?_
   ·refine Qkn ?_
    refine Wp.seq ?_
    refine Wp.block ?_
    refine Qsr ?_
    refine Qm ?_
    obtain ⟨k1,hk1,h⟩:=Qbs h
    refine Qix hk1 Try.underlying134 ty163 ?_
    refine Q1 (r_loadp ty163) ?_
    refine Qal zr163 fun p5 => ?_
    refine Qa ?_
    refine Qs0 0 ty163 ?_
    refine Qns ?_
    obtain ⟨k2,hk2,h⟩:=Qbs h
    obtain ⟨y2,hy2,h⟩:=Qbs h
    obtain ⟨k3,hk3,h⟩:=Qbs h
    obtain ⟨y3,hy3,h⟩:=Qbs h
    obtain ⟨z1,hz1,h⟩:=Qbs h
    refine Wp.draw mixed 26 ((some 27) :: (some 28) :: (some 29) :: (some 30) :: (some 31) :: (some 32) :: (some 33) :: (some 34) :: (some 35) :: (some 36) :: (some 37) :: (some 38) :: (some 39) :: (some 40) :: (some 41) :: (some 42) :: (some 43) :: (some 44) :: (some 45) :: (some 46) :: (some 47) :: (some 48) :: (some 49) :: (some 50) :: (some 51) :: (some 52) :: []) ([] :: [] :: [1] :: [2] :: [0, 3] :: [4] :: [5] :: [5, 6] :: [5, 7] :: [8] :: [9] :: [9, 10] :: [9] :: [9, 11, 12] :: [9, 13] :: [9] :: [9, 15] :: [9] :: [9] :: [9, 17, 18] :: [9] :: [9, 20] :: [9, 21] :: [9, 14, 16, 19, 22] :: [9, 23] :: [9, 24] :: []) (.val _ :: .val _ :: .val _ :: .val _ :: .val _ :: .val _ :: .val _ :: .val _ :: .val _ :: .val _ :: .val _ :: .val _ :: .val _ :: .val _ :: .val _ :: .val _ :: .val _ :: .val _ :: .val _ :: .val _ :: .val _ :: .val _ :: .val _ :: .val _ :: .val _ :: .val _ :: []) (false :: false :: false :: false :: false :: false :: false :: false :: false :: false :: false :: false :: false :: false :: false :: false :: false :: false :: false :: false :: false :: false :: false :: false :: false :: false :: []) (by kernel_rfl) rfl rfl rfl (fun ps1 => ⟨Hm, H1 (r_fa fd89_1), Hld 3 le_T_api_Entry_Matches ty87, H1 (r_len Try.underlying87), H2 r_geq, Hm, Hg fun L' hL => fun hb => r_move (look_t rfl), Hg fun L' hL => fun hb => r_geq (look_tc rfl hb) (look_int 4), Hv fun L' hL => r_or (look_t rfl) (look_t rfl) (fun h => h), Hm, Hg fun L' hL => fun hb => r_fa fd89_1 (look_t rfl), Hg fun L' hL => fun hb => r_load (i := 3) ((Lens.id T_api_Entry).comp le_T_api_Entry_Matches) (r := x1.f_Matches) ty87 (look_tc rfl hb) (hL _ _ rfl rfl) rfl rfl, Hg fun L' hL => fun hb => r_move (look_t rfl), Hg fun L' hL => fun hb => r_ias (k := k2) Try.underlying87 ty104 (look_tc rfl hb) (look_tc rfl hb) (idx_some (condM_some hk2 hb)), Hg fun L' hL => fun hb => r_loadp ty104 (look_tc rfl hb), Hg fun L' hL => fun hb => r_fa fd163_2 (look_t rfl), Hg fun L' hL => fun hb => r_load (i := 0) ((Lens.id T_api_Key).comp le_T_api_Key_Kind) (r := (lget y1.1.f_Keys k1).f_Kind) ty3 (look_tc rfl hb) (hL _ _ rfl rfl) rfl rfl, Hg fun L' hL => fun hb => r_load (i := 4) (Lens.id T_api_Schema) (r := x0) ty33 (look_t rfl) (hL _ _ rfl rfl) rfl rfl, Hg fun L' hL => fun hb => r_load (i := 0) (Lens.id T_api_Key) (r := (lget y1.1.f_Keys k1)) ty163 (look_t rfl) (hL _ _ rfl rfl) rfl rfl, Hg fun L' hL => fun hb => r_call en141 (C_entry_bitsOf (condM_some hy2 hb)) ⟨look_tc rfl hb, look_tc rfl hb, trivial⟩, Hg fun L' hL => fun hb => r_move (look_t rfl), Hg fun L' hL => fun hb => r_ia (k := k3) ar81 (look_t rfl) (look_tc rfl hb) (idx_some (condM_some hk3 hb)), Hg fun L' hL => fun hb => r_load (i := 2) ((Lens.id (Vector T_api_Value 4)).comp (Lens.idx (α := T_api_Value) 4 k3 (idx_some (condM_some hk3 hb)).1)) (r := vget x2 k3) ty47 (look_tc rfl hb) (hL _ _ rfl rfl) rfl rfl, Hg fun L' hL => fun hb => r_call en140 (C_entry_Covers (condM_some hy3 hb)) ⟨look_tc rfl hb, look_tc rfl hb, look_tc rfl hb, look_tc rfl hb, trivial⟩, Hg fun L' hL => fun hb => r_not (look_tc rfl hb), Hn hz1 fun L' hL => r_or (look_t rfl) (look_t rfl) (fun h => h), trivial⟩) fun ps1 => ?_
    refine Qnx ?_
    refine Qcd h (fun h=>?_) fun h=>?_
    ·refine Qsr ?_
     refine Qa ?_
     refine Qnx ?_
     refine Wp.ret ?_
     refine To.bret ?_
     refine To.ret ?_
     obtain rfl:=some_in h
     exact Qlv () 1
    ·refine Wp.skip ?_
     refine To.bnorm ?_
     refine To.next ?_
     refine Wp.reg ?_
     refine Q2 r_add ?_
     refine Qm ?_
     refine Sq.nil ?_
     obtain rfl:=some_in h
     exact Qrd () 1
   ·refine Wp.exit ?_
    refine To.exit ?_
    obtain rfl:=some_in h
    exact Qlv () 0
  ·clear hl
   rcases e1 with e1 | e1
   ·simp only [Sum.elim_inl] at h
    refine To.bexit ?_
    refine To.next ?_
    refine Qsr ?_
    refine Qa ?_
    refine Qnx ?_
    refine Wp.ret ?_
    obtain rfl:=some_in h
    exact Qe1
   ·simp only [Sum.elim_inr] at h
    refine To.bret ?_
    refine To.ret ?_
    obtain rfl:=some_in h
    exact Qe1
theorem C_ref10_Matches {x0 : T_api_Schema} {x1 : T_api_Entry} {x2 : Vector T_api_Value 4}  {r : Bool} (h : L_ref10_Matches x0 x1 x2 = some r) : Meets Try.prog 37 [VP.of (x0), VP.of (x1), VP.of (x2)] (VP.of (r)) := by
 unfold L_ref10_Matches at h
 refine Meets.of Try.func37 rfl Try.ntmps37 rfl fun W A => ?_
 refine Qsr ?_
 refine Qbx fun p1 => ?_
 refine Qbx fun p2 => ?_
 refine Qbx fun p3 => ?_
 refine Qa ?_
 refine Qns ?_
 obtain ⟨y1,hy1,h⟩:=Qbs h
 obtain ⟨k1,hk1,h⟩:=Qbs h
 refine Wp.draw mixed 9 [some 10, some 11, some 12, some 13, some 14, some 15, some 16, some 17, some 7] [[], [0], [], [], [3], [2, 4], [1, 5], [6], []] [.val _, .val _, .val _, .val _, .val _, .val _, .val _, .val _, .new (.var (default : T_api_Table))] [false, false, false, false, false, false, false, false, false] (by kernel_rfl) rfl rfl rfl (fun ps1 => ⟨H1 (r_fa fd33_4), Hld 2 le_T_api_Schema_Tables ty28, Hl0 2 ty33, H1 (r_fa fd89_0), Hld 1 le_T_api_Entry_Table ty3, Hcl en86 (C_ref04_TableOf hy1), Hix hk1 Try.underlying28 ty136, H1 (r_loadp ty136), ao_alloc zr136, trivial⟩) fun ps1 => ?_
 refine Qs0 0 ty136 ?_
 refine Qns ?_
 refine Qsr ?_
 refine Q1 (r_fa fd136_2) ?_
 refine Qld 0 le_T_api_Table_Keys ty134 ?_
 refine Q1 (r_len Try.underlying134) ?_
 refine Qm ?_
 refine Qnx ?_
 refine Wp.block ?_
 obtain ⟨e1,hl,h⟩:=Qbs h
 refine Qlp (γ:=Unit) (δ:=Unit) hl [0, 1, 2, 3, 4, 5, 6, 7, 19, 20] (fun s1 g1 => [(21, VP.of (s1))]) (fun s1 g1 => []) (fun q1 => Sum.elim (fun q1 => Exit.exit 0) (fun q1 => Exit.ret) q1) (fun q1 g1 => Sum.elim (fun q1 => [(21, VP.of (q1.1)), (22, VP.of (q1.2))]) (fun q1 => [(8, VP.of (q1.1)), (21, VP.of (q1.2.1)), (22, VP.of (q1.2.2.1)), (41, VP.of (q1.2.2.2))]) q1) (fun q1 g1 => Sum.elim (fun q1 => []) (fun q1 => []) q1) () (fun s1 r h g1 => ?_) fun g1 => ?_
 ·clear hl
  refine Qsr ?_
  refine Q2 r_lss ?_
  refine Qns ?_
  refine Qcd h (fun h=>?_) fun h=>?_
  ·refine Qkn ?_
   refine Wp.seq ?_
   refine Wp.block ?_
   refine Qsr ?_
   refine Qm ?_
   obtain ⟨k2,hk2,h⟩:=Qbs h
   refine Qix hk2 Try.underlying134 ty163 ?_
   refine Q1 (r_loadp ty163) ?_
   refine Qal zr163 fun p4 => ?_
   refine Qa ?_
   refine Qs0 0 ty163 ?_
   refine Qns ?_
   obtain ⟨k3,hk3,h⟩:=Qbs h
   obtain ⟨y2,hy2,h⟩:=Qbs h
   obtain ⟨k4,hk4,h⟩:=Qbs h
   obtain ⟨y3,hy3,h⟩:=Qbs h
   refine Wp.draw mixed 16 ((some 26) :: (some 27) :: (some 28) :: (some 29) :: (some 30) :: (some 31) :: (some 32) :: (some 33) :: (some 34) :: (some 35) :: (some 36) :: (some 37) :: (some 38) :: (some 39) :: (some 40) :: (some 41) :: []) ([] :: [0] :: [] :: [1, 2] :: [3] :: [] :: [5] :: [] :: [] :: [] :: [7, 8, 9] :: [] :: [11] :: [12] :: [4, 6, 10, 13] :: [14] :: []) (.val _ :: .val _ :: .val _ :: .val _ :: .val _ :: .val _ :: .val _ :: .val _ :: .val _ :: .val _ :: .val _ :: .val _ :: .val _ :: .val _ :: .val _ :: .val _ :: []) (false :: false :: false :: false :: false :: false :: false :: false :: false :: false :: false :: false :: false :: false :: false :: false :: []) (by kernel_rfl) rfl rfl rfl (fun ps2 => ⟨H1 (r_fa fd89_1), Hld 3 le_T_api_Entry_Matches ty87, Hm, Hix hk3 Try.underlying87 ty104, H1 (r_loadp ty104), H1 (r_fa fd163_2), Hld 0 le_T_api_Key_Kind ty3, Hl0 4 ty33, Hl0 1 ty136, Hm, Hcl en88 (C_ref04_KeyBits hy2), Hm, Hv fun L' hL => r_ia (k := k4) ar81 (look_t rfl) (look_t rfl) (idx_some hk4), Hld 2 ((Lens.id (Vector T_api_Value 4)).comp (Lens.idx (α := T_api_Value) 4 k4 (idx_some hk4).1)) ty47, Hcl en87 (C_ref10_Covers hy3), H1 r_not, trivial⟩) fun ps2 => ?_
   refine Qnx ?_
   refine Qcd h (fun h=>?_) fun h=>?_
   ·refine Qsr ?_
    refine Qa ?_
    refine Qnx ?_
    refine Wp.ret ?_
    refine To.bret ?_
    refine To.ret ?_
    obtain rfl:=some_in h
    exact Qlv () 1
   ·refine Wp.skip ?_
    refine To.bnorm ?_
    refine To.next ?_
    refine Wp.reg ?_
    refine Q2 r_add ?_
    refine Qm ?_
    refine Sq.nil ?_
    obtain rfl:=some_in h
    exact Qrd () 1
  ·refine Wp.exit ?_
   refine To.exit ?_
   obtain rfl:=some_in h
   exact Qlv () 0
 ·clear hl
  rcases e1 with e1 | e1
  ·simp only [Sum.elim_inl] at h
   refine To.bexit ?_
   refine To.next ?_
   refine Qsr ?_
   refine Qa ?_
   refine Qnx ?_
   refine Wp.ret ?_
   obtain rfl:=some_in h
   exact Qe1
  ·simp only [Sum.elim_inr] at h
   refine To.bret ?_
   refine To.ret ?_
   obtain rfl:=some_in h
   exact Qe1
theorem C_ref10_Compare {x0 : T_api_Entry} {x1 : T_api_Entry}  {r : Int} (h : L_ref10_Compare x0 x1 = some r) : Meets Try.prog 124 [VP.of (x0), VP.of (x1)] (VP.of (r)) := by
 unfold L_ref10_Compare at h
 refine Meets.of Try.func124 rfl Try.ntmps124 rfl fun W A => ?_
 refine Qsr ?_
 refine Qbx fun p1 => ?_
 refine Qbx fun p2 => ?_
 refine Qa ?_
 refine Qns ?_
 refine Wp.seq ?_
 obtain ⟨y1,hy1,h⟩:=Qbs h
 obtain ⟨y2,hy2,h⟩:=Qbs h
 obtain ⟨y3,hy3,h⟩:=Qbs h
 obtain ⟨y4,hy4,h⟩:=Qbs h
 refine Wp.draw mixed 23 ((some 7) :: (some 8) :: (some 9) :: (some 10) :: (some 11) :: (some 12) :: (some 13) :: (some 14) :: (some 15) :: (some 16) :: (some 17) :: (some 18) :: (some 19) :: (some 20) :: (some 21) :: (some 22) :: (some 23) :: (some 24) :: (some 25) :: (some 26) :: (some 27) :: (some 28) :: (some 29) :: []) ([] :: [0] :: [] :: [2] :: [1, 3] :: [] :: [5] :: [] :: [7] :: [6, 8] :: [] :: [10] :: [] :: [12] :: [11, 13] :: [] :: [15] :: [] :: [17] :: [16, 18] :: [4, 9, 14, 19] :: [20] :: [] :: []) (.val _ :: .val _ :: .val _ :: .val _ :: .val _ :: .val _ :: .val _ :: .val _ :: .val _ :: .val _ :: .val _ :: .val _ :: .val _ :: .val _ :: .val _ :: .val _ :: .val _ :: .val _ :: .val _ :: .val _ :: .val _ :: .val _ :: .val _ :: []) (false :: false :: false :: false :: false :: false :: false :: false :: false :: false :: false :: false :: false :: false :: false :: false :: false :: false :: false :: false :: false :: false :: false :: []) (by kernel_rfl) rfl rfl rfl (fun ps1 => ⟨H1 (r_fa fd89_0), Hld 1 le_T_api_Entry_Table ty3, H1 (r_fa fd89_0), Hld 0 le_T_api_Entry_Table ty3, Hcl en150 (C_ref10_number hy1), H1 (r_fa fd89_2), Hld 0 le_T_api_Entry_Priority ty3, H1 (r_fa fd89_2), Hld 1 le_T_api_Entry_Priority ty3, Hcl en150 (C_ref10_number hy2), H1 (r_fa fd89_1), Hld 1 le_T_api_Entry_Matches ty87, H1 (r_fa fd89_1), Hld 0 le_T_api_Entry_Matches ty87, Hcl en151 (C_ref10_matches hy3), H1 (r_fa fd89_3), Hld 1 le_T_api_Entry_Action ty3, H1 (r_fa fd89_3), Hld 0 le_T_api_Entry_Action ty3, Hcl en150 (C_ref10_number hy4), Hv fun L' hL => r_bsl (r := [y1, y2, y3, y4]) Try.underlying64 ty3 zr3 rfl rfl (.cons (by simp) (look_t rfl) (.cons (by simp) (look_t rfl) (.cons (by simp) (look_t rfl) (.cons (by simp) (look_t rfl) (.nil))))), H1 (r_len Try.underlying64), Hm, trivial⟩) fun ps1 => ?_
 refine Qnx ?_
 refine Wp.block ?_
 obtain ⟨e1,hl,h⟩:=Qbs h
 refine Qlp (γ:=Unit) (δ:=Unit) hl [0, 1, 2, 3, 27, 28] (fun s1 g1 => [(4, VP.of (0 : Int)), (29, VP.of (s1))]) (fun s1 g1 => []) (fun q1 => Sum.elim (fun q1 => Exit.exit 0) (fun q1 => Exit.ret) q1) (fun q1 g1 => Sum.elim (fun q1 => [(4, VP.of (0 : Int)), (29, VP.of (q1.1)), (30, VP.of (q1.2))]) (fun q1 => [(4, VP.of (q1.1)), (6, VP.of (q1.2.1)), (29, VP.of (q1.2.2.1)), (30, VP.of (q1.2.2.2.1)), (34, VP.of (q1.2.2.2.2))]) q1) (fun q1 g1 => Sum.elim (fun q1 => []) (fun q1 => []) q1) () (fun s1 r h g1 => ?_) fun g1 => ?_
 ·clear hl
  refine Qsr ?_
  refine Q2 r_lss ?_
  refine Qns ?_
  refine Qcd h (fun h=>?_) fun h=>?_
  ·refine Qkn ?_
   refine Wp.seq ?_
   refine Wp.block ?_
   refine Qsr ?_
   obtain ⟨k1,hk1,h⟩:=Qbs h
   refine Qix hk1 Try.underlying64 ty3 ?_
   refine Q1 (r_loadp ty3) ?_
   refine Qa ?_
   refine Qnr ?_
   refine Qm ?_
   refine Q2 r_neq ?_
   refine Qnx ?_
   refine Qcd h (fun h=>?_) fun h=>?_
   ·refine Qsr ?_
    refine Qm ?_
    refine Qa ?_
    refine Qnx ?_
    refine Wp.ret ?_
    refine To.bret ?_
    refine To.ret ?_
    obtain rfl:=some_in h
    exact Qlv () 0
   ·refine Wp.skip ?_
    refine To.bnorm ?_
    refine To.next ?_
    refine Wp.reg ?_
    refine Q2 r_add ?_
    refine Qm ?_
    refine Sq.nil ?_
    obtain rfl:=some_in h
    exact Qrd () 0
  ·refine Wp.exit ?_
   refine To.exit ?_
   obtain rfl:=some_in h
   exact Qlv () 0
 ·clear hl
  rcases e1 with e1 | e1
  ·simp only [Sum.elim_inl] at h
   refine To.bexit ?_
   refine To.next ?_
   refine Qsr ?_
   refine Q1 (r_fa fd89_4) ?_
   refine Qld 1 le_T_api_Entry_Args ty72 ?_
   refine Q1 (r_fa fd89_4) ?_
   refine Qld 0 le_T_api_Entry_Args ty72 ?_
   obtain ⟨y5,hy5,h⟩:=Qbs h
   refine Qcl en152 (C_ref10_values hy5) ?_
   refine Qa ?_
   refine Qnx ?_
   refine Wp.ret ?_
   obtain rfl:=some_in h
   exact Qe1
  ·simp only [Sum.elim_inr] at h
   refine To.bret ?_
   refine To.ret ?_
   obtain rfl:=some_in h
   exact Qe1
theorem Ch0_1_ordered_List_All {x0 : T_ordered_List} {pp0 : Nat} {key00_0 : Option Nat} {cap00_0 : Nat} {r : (List T_api_Installed)} (h : Lh0_1_ordered_List_All x0 = some r) : MeetsO Try.prog 44 [VP.eq (.pointer (some ⟨pp0, 0, none⟩))] [⟨some pp0, .varX (({ x0 with f_l := [] } : T_ordered_List) : T_ordered_List) [(10, slv key00_0 x0.f_l.length cap00_0)]⟩, ⟨key00_0, .row 92 (x0.f_l : List T_api_Installed) cap00_0⟩] (δ := Unit) (fun d => VP.of (r)) (fun d => [⟨some pp0, .varX (({ x0 with f_l := [] } : T_ordered_List) : T_ordered_List) [(10, slv key00_0 (x0.f_l).length cap00_0)]⟩, ⟨key00_0, .row 92 (x0.f_l : List T_api_Installed) cap00_0⟩]) := by
 unfold Lh0_1_ordered_List_All at h
 refine MeetsO.of Try.func44 rfl Try.ntmps44 rfl fun W A => ?_
 refine Qsr ?_
 refine Qv (r_asg (look_nil (α := T_api_Installed))) ?_
 refine Qns ?_
 refine Qsr ?_
 refine Qm ?_
 refine Qv (r_pnil Try.underlying82 (look_t rfl)) ?_
 refine Qnx ?_
 refine Wp.condF (look_t rfl) rfl ?_
 refine Qkn ?_
 refine Qsr ?_
 refine Qm ?_
 refine Q1 r_nck ?_
 refine Q1 (r_fa fd161_1) ?_
 refine Qv (r_loadH (i := 0) (q := 0) (β := T_ordered_List) (γ := T_api_Installed) ty84 (look_t rfl) rfl rfl) ?_
 obtain ⟨y1,hy1,h⟩:=Qbs h
 refine Sq.vS (HS.call [1] en93 (Cl0_own_List hy1) ⟨look_t rfl, trivial⟩ rfl ⟨rfl, trivial⟩ rfl) rfl rfl rfl ?_
 refine Qa ?_
 refine Qnx ?_
 refine Wp.ret ?_
 refine To.bring 1 rfl ?_
 refine To.bring 1 rfl ?_
 obtain rfl:=some_in h
 exact Qo1 ()
theorem C_ref13_Ranked {x0 : T_api_Schema} {x1 : List T_api_Installed}  {r : (List T_api_Installed)} (h : L_ref13_Ranked x0 x1 = some r) : Meets Try.prog 45 [VP.of (x0), VP.of (x1)] (VP.of (r)) := by
 unfold L_ref13_Ranked at h
 refine Meets.of Try.func45 rfl Try.ntmps45 rfl fun W A => ?_
 refine Qsr ?_
 refine Qbx fun p1 => ?_
 refine Qv (r_asg (look_nil (α := T_api_Installed))) ?_
 refine Qnr ?_
 refine Qv (r_asg (look_nil (α := T_api_Installed))) ?_
 refine Qns ?_
 refine Qsr ?_
 refine Qm ?_
 refine Q1 (r_len Try.underlying84) ?_
 refine Qm ?_
 refine Qnx ?_
 refine Wp.block ?_
 obtain ⟨e1,hl,h⟩:=Qbs h
 refine Qlp (γ:=Unit) (δ:=Unit) hl [0, 1, 2, 4, 9, 10] (fun s1 g1 => [(5, VP.of (s1.1)), (11, VP.of (s1.2))]) (fun s1 g1 => []) (fun q1 => Exit.exit 0) (fun q1 g1 => [(5, VP.of (q1.1)), (11, VP.of (q1.2.1)), (12, VP.of (q1.2.2))]) (fun q1 g1 => []) () (fun s1 r h g1 => ?_) fun g1 => ?_
 ·clear hl
  refine Qsr ?_
  refine Q2 r_lss ?_
  refine Qns ?_
  refine Qcd h (fun h=>?_) fun h=>?_
  ·refine Qkn ?_
   refine Wp.seq ?_
   refine Wp.block ?_
   refine Qsr ?_
   obtain ⟨k1,hk1,h⟩:=Qbs h
   refine Qix hk1 Try.underlying84 ty92 ?_
   refine Q1 (r_loadp ty92) ?_
   refine Qal zr92 fun p2 => ?_
   refine Qs0 0 ty92 ?_
   refine Qnr ?_
   refine Qa ?_
   refine Qns ?_
   refine Wp.block ?_
   obtain ⟨e2,hl,h⟩:=Qbs h
   refine Qlp (γ:=Unit) (δ:=Unit) hl [0, 1, 2, 4, 5, 7, 9, 10, 11, 12] (fun s2 g2 => [(8, VP.of (s2))]) (fun s2 g2 => []) (fun q2 => Exit.exit 2) (fun q2 g2 => [(8, VP.of (q2.1)), (27, VP.of (q2.2))]) (fun q2 g2 => []) () (fun s2 r h g2 => ?_) fun g2 => ?_
   ·clear hl
    refine Wp.seq ?_
    refine Wp.seq ?_
    obtain ⟨k2,hk2,h⟩:=Qbs h
    obtain ⟨y1,hy1,h⟩:=Qbs h
    refine Wp.draw mixed 13 [some 15, some 16, some 17, some 18, some 19, some 20, some 21, some 22, some 23, some 24, some 25, some 26, some 27] [[], [], [1], [0, 2], [3], [4], [4], [4], [4, 6, 7], [4, 8], [4], [4, 5, 9, 10], [4, 11]] [.val _, .val _, .val _, .val _, .val _, .val _, .val _, .val _, .val _, .val _, .val _, .val _, .val _] [false, false, false, false, false, false, false, false, false, false, false, false, false] (by kernel_rfl) rfl rfl rfl (fun ps1 => ⟨Hm, Hm, H1 (r_len Try.underlying84), H2 r_lss, Hm, Hg fun L' hL => fun hb => r_load (i := 1) (Lens.id T_api_Schema) (r := x0) ty33 (look_t rfl) (hL _ _ rfl rfl) rfl rfl, Hg fun L' hL => fun hb => r_move (look_t rfl), Hg fun L' hL => fun hb => r_move (look_t rfl), Hg fun L' hL => fun hb => r_ias (k := k2) Try.underlying84 ty92 (look_tc rfl hb) (look_tc rfl hb) (idx_some (condM_some hk2 hb)), Hg fun L' hL => fun hb => r_loadp ty92 (look_tc rfl hb), Hg fun L' hL => fun hb => r_load (i := 0) (Lens.id T_api_Installed) (r := (lget x1 k1)) ty92 (look_t rfl) (hL _ _ rfl rfl) rfl rfl, Hg fun L' hL => fun hb => r_call en94 (C_ref10_Beats (condM_some hy1 hb)) ⟨look_tc rfl hb, look_tc rfl hb, look_tc rfl hb, trivial⟩, Hv fun L' hL => r_and (look_t rfl) (look_t rfl) (fun h => h), trivial⟩) fun ps1 => ?_
    refine Qnx ?_
    refine Qcd h (fun h=>?_) fun h=>?_
    ·refine Qkn ?_
     refine Wp.block ?_
     refine Wp.reg ?_
     refine Qm ?_
     refine Q2 r_add ?_
     refine Qa ?_
     refine Sq.nil ?_
     refine To.bnorm ?_
     obtain rfl:=some_in h
     exact Qrd () 0
    ·refine Wp.exit ?_
     refine To.exit ?_
     obtain rfl:=some_in h
     exact Qlv () 0
   ·clear hl
    refine To.bexit ?_
    refine To.next ?_
    obtain ⟨y2,hy2,h⟩:=Qbs h
    obtain ⟨y3,hy3,h⟩:=Qbs h
    obtain ⟨y4,hy4,h⟩:=Qbs h
    obtain ⟨y5,hy5,h⟩:=Qbs h
    obtain ⟨y6,hy6,h⟩:=Qbs h
    refine Wp.keep 1 ?_
    refine Qwl [0, 1, 2, 4, 5, 7, 8, 9, 10, 11, 12, 27] ?_
    refine Wp.drawD mixed (⟨some 30, [], (2 :: []), (2 :: []), fun hd => VP.eq (slv (hd 0 0) ([] : List T_api_Installed).length 0), fun hd _ => ⟨(hd 0 0), .row 92 (([] : List T_api_Installed) : List T_api_Installed) 0⟩⟩ :: Hp 31 [] [] _ :: Hp 32 [] [] _ :: Hp 33 (1 :: 2 :: []) [] _ :: ⟨some 34, (0 :: 3 :: []), (2 :: []), (2 :: []), fun hd => VP.eq (slv (hd 4 0) y3.length ((hd 4 1).getD 0)), fun hd _ => ⟨(hd 4 0), .row 92 (y3 : List T_api_Installed) ((hd 4 1).getD 0)⟩⟩ :: Hp 35 [] (0 :: []) _ :: Hp 36 (5 :: []) [] _ :: ⟨some 37, (0 :: 4 :: 6 :: []), (2 :: []), (2 :: []), fun hd => VP.eq (slv (hd 7 0) y4.length ((hd 7 1).getD 0)), fun hd _ => ⟨(hd 7 0), .row 92 (y4 : List T_api_Installed) ((hd 7 1).getD 0)⟩⟩ :: Hp 38 [] [] _ :: Hp 39 [] [] _ :: Hp 40 (8 :: 9 :: []) [] _ :: ⟨some 41, (0 :: 4 :: 7 :: 10 :: []), (2 :: []), (2 :: []), fun hd => VP.eq (slv (hd 11 0) y6.length ((hd 11 1).getD 0)), fun hd _ => ⟨(hd 11 0), .row 92 (y6 : List T_api_Installed) ((hd 11 1).getD 0)⟩⟩ :: ⟨some 5, (0 :: 1 :: 2 :: 3 :: 4 :: 5 :: 6 :: 7 :: 8 :: 9 :: 10 :: 11 :: []), [], [], fun hd => VP.eq (slv (hd 11 0) y6.length ((hd 11 1).getD 0)), fun _ _ => ⟨none, .dead⟩⟩ :: []) _ (0 :: 1 :: 2 :: 4 :: 5 :: 7 :: 8 :: 9 :: 10 :: 11 :: 12 :: 27 :: []) rfl rfl (by kernel_rfl) ⟨?_, Dm, Dm, Dv fun hd E' L' hE hL => r_slice Try.underlying84 ty92 (look_t (hE _ _ rfl)) .none (.some (look_t (hE _ _ rfl))) hy2, ?_, Dl0 0 ty92, Dv fun hd E' L' hE hL => r_bsl (r := [(lget x1 k1)]) Try.underlying84 ty92 zr92 rfl rfl (.cons (by simp) (look_t (hE _ _ rfl)) (.nil)), ?_, Dm, Dm, Dv fun hd E' L' hE hL => r_slice Try.underlying84 ty92 (look_t (hE _ _ rfl)) (.some (look_t (hE _ _ rfl))) .none hy5, ?_, ?_, trivial⟩ fun hd => ?_
    ·intro hd E' L' hE hL
     refine Sq.bslO (α := T_api_Installed) (r := ([] : List T_api_Installed)) Try.underlying84 ty92 zr92 rfl rfl (.nil) rfl fun key1 => ?_
     refine Sq.nil ?_
     refine To.place 2 (hL 2 _ rfl rfl) ?_
     exact To.fin (gm [key1]) rfl rfl
    ·intro hd E' L' hE hL
     refine Sq.app (i := 2) Try.underlying84 ty92 zr92 (bytes := 88) (by kernel_rfl) (look_t (hE _ _ rfl)) (hL 2 _ rfl rfl) (look_t (hE _ _ rfl)) hy3 rfl fun key2 cap1 => ?_
     refine Sq.nil ?_
     exact To.fin (gm [key2, some cap1]) rfl rfl
    ·intro hd E' L' hE hL
     refine Sq.app (i := 2) Try.underlying84 ty92 zr92 (bytes := 88) (by kernel_rfl) (look_t (hE _ _ rfl)) (hL 2 _ rfl rfl) (look_t (hE _ _ rfl)) hy4 rfl fun key3 cap2 => ?_
     refine Sq.nil ?_
     exact To.fin (gm [key3, some cap2]) rfl rfl
    ·intro hd E' L' hE hL
     refine Sq.app (i := 2) Try.underlying84 ty92 zr92 (bytes := 88) (by kernel_rfl) (look_t (hE _ _ rfl)) (hL 2 _ rfl rfl) (look_t (hE _ _ rfl)) hy6 rfl fun key4 cap3 => ?_
     refine Sq.nil ?_
     exact To.fin (gm [key4, some cap3]) rfl rfl
    ·intro hd E' L' hE hL
     refine Qv (r_asg (look_t (hE _ _ rfl))) ?_
     refine Sq.nil ?_
     exact To.fin (gm []) rfl rfl
    refine To.eqL (L2 := [⟨some p2, .var (lget x1 k1 : T_api_Installed)⟩, ⟨some p1, .var (x0 : T_api_Schema)⟩, ⟨(hd 11 0), .row 92 (y6 : List T_api_Installed) ((hd 11 1).getD 0)⟩]) rfl ?_
    refine Qtl [0, 1, 2, 4, 5, 7, 8, 9, 10, 11, 12, 27, 31, 32, 33, 35, 36, 38, 39, 40, 41] ?_
    refine To.bring 2 rfl ?_
    refine To.bnorm ?_
    refine To.next ?_
    refine Wp.reg ?_
    refine Q2 r_add ?_
    refine Qm ?_
    refine Sq.nil ?_
    refine To.freezeL (α := T_api_Installed) 0 [5, 41] ⟨rfl, rfl, trivial⟩ rfl ?_
    obtain rfl:=some_in h
    exact Qrd () 2
  ·refine Wp.exit ?_
   refine To.exit ?_
   obtain rfl:=some_in h
   exact Qlv () 0
 ·clear hl
  refine To.bexit ?_
  refine To.next ?_
  refine Qsr ?_
  refine Qm ?_
  refine Qa ?_
  refine Qnx ?_
  refine Wp.ret ?_
  obtain rfl:=some_in h
  exact Qe1
end Go.Proofs.Ytodajdohokmjnaa

namespace Go.Proofs.Ytodajdohokmjnaa
open Go Gv
set_option linter.unusedVariables false
set_option linter.unusedSimpArgs false
set_option maxRecDepth 100000
set_option maxHeartbeats 2000000
theorem Cf0_ordered_List_order {x0 : T_ordered_List} {x1 : T_api_Installed} {x2 : T_api_Installed}  {r : Int} (h : Lf0_ordered_List_order x0 x1 x2 = some r) : Meets Try.prog 83 [VP.ptr x0, VP.of (x1), VP.of (x2)] (VP.of (r)) := by
 unfold Lf0_ordered_List_order at h
 refine Meets.of Try.func83 rfl Try.ntmps83 rfl fun W A => ?_
 refine Qsr ?_
 refine Qbx fun p1 => ?_
 refine Qbx fun p2 => ?_
 refine Qa ?_
 refine Qns ?_
 refine Wp.block ?_
 refine Wp.seq ?_
 obtain ⟨y1,hy1,h⟩:=Qbs h
 refine Wp.draw mixed 7 [some 8, some 9, some 10, some 11, some 12, some 13, some 14] [[], [0], [1], [2], [], [], [3, 4, 5]] [.val _, .val _, .val _, .val _, .val _, .val _, .val _] [false, false, false, false, false, false, false] (by kernel_rfl) rfl rfl rfl (fun ps1 => ⟨Hm, H1 r_nckp, Hfp le_T_ordered_List_schema fd161_0, H1 (r_loadp ty33), Hl0 1 ty92, Hl0 0 ty92, Hcl en119 (C_entry_Beats hy1), trivial⟩) fun ps1 => ?_
 refine Qa ?_
 refine Qnx ?_
 refine Qcd h (fun h=>?_) fun h=>?_
 ·refine Qsr ?_
  refine Qa ?_
  refine Qnx ?_
  refine Wp.ret ?_
  refine To.bret ?_
  refine To.ret ?_
  obtain rfl:=some_in h
  exact Qe1
 ·refine Wp.seq ?_
  obtain ⟨y2,hy2,h⟩:=Qbs h
  refine Wp.draw mixed 7 [some 16, some 17, some 18, some 19, some 20, some 21, some 22] [[], [0], [1], [2], [], [], [3, 4, 5]] [.val _, .val _, .val _, .val _, .val _, .val _, .val _] [false, false, false, false, false, false, false] (by kernel_rfl) rfl rfl rfl (fun ps2 => ⟨Hm, H1 r_nckp, Hfp le_T_ordered_List_schema fd161_0, H1 (r_loadp ty33), Hl0 0 ty92, Hl0 1 ty92, Hcl en119 (C_entry_Beats hy2), trivial⟩) fun ps2 => ?_
  refine Qa ?_
  refine Qnx ?_
  refine Qcd h (fun h=>?_) fun h=>?_
  ·refine Qsr ?_
   refine Qa ?_
   refine Qnx ?_
   refine Wp.ret ?_
   refine To.bret ?_
   refine To.ret ?_
   obtain rfl:=some_in h
   exact Qe1
  ·refine Wp.skip ?_
   refine To.bnorm ?_
   refine To.next ?_
   refine Qsr ?_
   refine Qa ?_
   refine Qnx ?_
   refine Wp.ret ?_
   obtain rfl:=some_in h
   exact Qe1
theorem Ch1_1_ordered_List_matching_fn1 {x1 : T_ordered_List} {x2 : Vector T_api_Value 4} {pp1 : Nat} {key01_0 : Option Nat} {cap01_0 : Nat} : MeetsI Try.prog 114 [VP.pv (VP.eq (.pointer (some ⟨pp1, 0, none⟩))), VP.ptr x2] [⟨some pp1, .varX (({ x1 with f_l := [] } : T_ordered_List) : T_ordered_List) [(10, slv key01_0 x1.f_l.length cap01_0)]⟩, ⟨key01_0, .row 92 (x1.f_l : List T_api_Installed) cap01_0⟩] (fun v : T_api_Installed => VP.of v) (fun {σ ε} => Lh1_1_ordered_List_matching_fn1 (σ := σ) (ε := ε) x1 x2) := by
 refine MeetsI.of Try.func114 rfl Try.ntmps114 rfl ?_
 intro σ ε γ Ls Lx step s0 g0 r h W A u hY
 replace h : Lh1_1_ordered_List_matching_fn1 x1 x2 step s0 = some r := h
 unfold Lh1_1_ordered_List_matching_fn1 at h
 refine Qsr ?_
 refine Qv (r_loadF Try.underlying82 rfl (look_t rfl)) ?_
 refine Q1 r_nck ?_
 refine Q1 (r_fa fd161_1) ?_
 refine Qv (r_loadH (i := 0) (q := 0) (β := T_ordered_List) (γ := T_api_Installed) ty84 (look_t rfl) rfl rfl) ?_
 refine Qv (r_lenO (i := 1) Try.underlying84 (look_t rfl) rfl rfl) ?_
 refine Qm ?_
 refine Qnx ?_
 refine Wp.block ?_
 obtain ⟨e1,hl,h⟩:=Qbs h
 refine Wp.loopG (σ := Int × (σ)) (ε := (Int × Bool × (σ)) ⊕ (Int × Bool × Bool × (ε))) (γ := γ) (δ := γ) hl (fun s1 g1 => [(0, VP.eq u), (1, VP.pv (VP.eq (.pointer (some ⟨pp1, 0, none⟩)))), (2, VP.ptr x2), (9, VP.eq (slv key01_0 x1.f_l.length cap01_0)), (10, VP.of (x1.f_l.length : Int)), (11, VP.of (s1.1))]) (fun s1 g1 => (⟨some pp1, .varX (({ x1 with f_l := [] } : T_ordered_List) : T_ordered_List) [(10, slv key01_0 x1.f_l.length cap01_0)]⟩ :: ⟨key01_0, .row 92 (x1.f_l : List T_api_Installed) cap01_0⟩ :: Ls s1.2 g1)) (fun q1 => Sum.elim (fun q1 => Exit.exit 0) (fun q1 => Exit.ret) q1) (fun q1 g1 => Sum.elim (fun q1 => [(0, VP.eq u), (1, VP.pv (VP.eq (.pointer (some ⟨pp1, 0, none⟩)))), (2, VP.ptr x2), (9, VP.eq (slv key01_0 x1.f_l.length cap01_0)), (10, VP.of (x1.f_l.length : Int)), (11, VP.of (q1.1)), (12, VP.of (q1.2.1))]) (fun q1 => [(0, VP.eq u), (1, VP.pv (VP.eq (.pointer (some ⟨pp1, 0, none⟩)))), (2, VP.ptr x2), (9, VP.eq (slv key01_0 x1.f_l.length cap01_0)), (10, VP.of (x1.f_l.length : Int)), (11, VP.of (q1.1)), (12, VP.of (q1.2.1)), (28, VP.of (q1.2.2.1))]) q1) (fun q1 g1 => Sum.elim (fun q1 => (⟨some pp1, .varX (({ x1 with f_l := [] } : T_ordered_List) : T_ordered_List) [(10, slv key01_0 x1.f_l.length cap01_0)]⟩ :: ⟨key01_0, .row 92 (x1.f_l : List T_api_Installed) cap01_0⟩ :: Ls q1.2.2 g1)) (fun q1 => (⟨some pp1, .varX (({ x1 with f_l := [] } : T_ordered_List) : T_ordered_List) [(10, slv key01_0 x1.f_l.length cap01_0)]⟩ :: ⟨key01_0, .row 92 (x1.f_l : List T_api_Installed) cap01_0⟩ :: Lx q1.2.2.2 g1)) q1) g0 rfl (.same rfl (.same rfl (.same rfl (.same rfl (.same rfl (.same rfl .nil)))))) (fun s1 r h g1 => ?_) (fun g1 => ?_)
 ·clear hl
  refine Qsr ?_
  refine Q2 r_lss ?_
  refine Qns ?_
  refine Qcd h (fun h=>?_) fun h=>?_
  ·refine Qkn ?_
   refine Wp.seq ?_
   refine Wp.block ?_
   refine Qsr ?_
   obtain ⟨k1,hk1,h⟩:=Qbs h
   refine Qv (r_iaO (i := 1) (k := k1) (xs := (x1.f_l : List T_api_Installed)) Try.underlying84 ty92 (look_t rfl) (look_t rfl) rfl (idx_some hk1)) ?_
   refine Qv (r_loadR (i := 1) (k := k1) (Lens.id T_api_Installed) (r := (lget x1.f_l k1)) ty92 (look_t rfl) rfl (idx_some hk1).1 rfl rfl) ?_
   refine Qal zr92 fun p1 => ?_
   refine Qs0 0 ty92 ?_
   refine Qns ?_
   obtain ⟨y1,hy1,h⟩:=Qbs h
   refine Wp.draw mixed 11 [some 15, some 16, some 17, some 18, some 19, some 20, some 21, some 22, some 23, some 24, some 25] [[], [0], [1], [2], [], [4], [], [3, 5, 6], [7], [8], [8]] [.val _, .val _, .val _, .val _, .val _, .val _, .val _, .val _, .val _, .val _, .val _] [false, false, false, false, false, false, false, false, false, false, false] (by kernel_rfl) rfl rfl rfl (fun ps1 => ⟨Hv fun L' hL => r_loadF Try.underlying82 rfl (look_t rfl), H1 r_nck, H1 (r_fa fd161_0), Hv fun L' hL => r_loadX (i := 1) ((Lens.id T_ordered_List).comp le_T_ordered_List_schema) (r := x1.f_schema) ty33 (look_t rfl) (hL _ _ rfl rfl) rfl rfl (by rfl), H1 (r_fa fd92_0), Hld 0 le_T_api_Installed_Entry ty89, H1 (r_loadp ty81), Hcl en115 (C_entry_Matches hy1), Hm, Hg fun L' hL => fun hb => r_move (look_t rfl), Hg fun L' hL => fun hb => r_load (i := 0) (Lens.id T_api_Installed) (r := (lget x1.f_l k1)) ty92 (look_t rfl) (hL _ _ rfl rfl) rfl rfl, trivial⟩) fun ps1 => ?_
   refine Sq.cases y1 (fun hb => ?_) (fun hb => ?_)
   ·replace h := cond_t hb h
    obtain ⟨y2,hy2,h⟩:=Qbs h
    refine Sq.yieldT (Lin := [⟨some p1, .var ((lget x1.f_l k1) : T_api_Installed)⟩, ⟨some pp1, .varX (({ x1 with f_l := [] } : T_ordered_List) : T_ordered_List) [(10, slv key01_0 x1.f_l.length cap01_0)]⟩, ⟨key01_0, .row 92 (x1.f_l : List T_api_Installed) cap01_0⟩]) (Ls := Ls) (Lx := Lx) (step := step) (s := s1.2) (gg := g1) rfl hY hb rfl rfl rfl (look_tc rfl hb) hy2 rfl (fun s2 hr g2 => ?_) (fun q2 hr g2 => ?_)
    ·subst hr; simp only [Sum.elim_inl] at h
     refine Sq.eqL (L2 := (⟨some p1, .var ((lget x1.f_l k1) : T_api_Installed)⟩ :: ⟨some pp1, .varX (({ x1 with f_l := [] } : T_ordered_List) : T_ordered_List) [(10, slv key01_0 x1.f_l.length cap01_0)]⟩ :: ⟨key01_0, .row 92 (x1.f_l : List T_api_Installed) cap01_0⟩ :: Ls s2 g2)) rfl ?_
     refine Qg1 r_not ?_
     refine Qan ?_
     refine Qnx ?_
     refine Wp.condF (look_t rfl) (by first | rfl | (rw [hb]; rfl)) ?_
     refine Wp.skip ?_
     refine To.bnorm ?_
     refine To.next ?_
     refine Wp.reg ?_
     refine Q2 r_add ?_
     refine Qm ?_
     refine Sq.nil ?_
     obtain rfl:=some_in h
     exact Qrd g2 1
    ·subst hr; simp only [Sum.elim_inr] at h
     refine Sq.eqL (L2 := (⟨some p1, .var ((lget x1.f_l k1) : T_api_Installed)⟩ :: ⟨some pp1, .varX (({ x1 with f_l := [] } : T_ordered_List) : T_ordered_List) [(10, slv key01_0 x1.f_l.length cap01_0)]⟩ :: ⟨key01_0, .row 92 (x1.f_l : List T_api_Installed) cap01_0⟩ :: Lx q2 g2)) rfl ?_
     refine Qg1 r_not ?_
     refine Qan ?_
     refine Qnx ?_
     refine Wp.condT (look_t rfl) (by first | rfl | (rw [hb]; rfl)) ?_
     refine Wp.ret ?_
     refine To.bret ?_
     refine To.ret ?_
     obtain rfl:=some_in h
     exact Qlv g2 1
   ·replace h := cond_f hb h
    refine Sq.skipG (.of false) hb rfl rfl rfl rfl rfl ?_
    refine Qg1 r_not ?_
    refine Qan ?_
    refine Qnx ?_
    refine Wp.condF (look_t rfl) (by first | rfl | (rw [hb]; rfl)) ?_
    refine Wp.skip ?_
    refine To.bnorm ?_
    refine To.next ?_
    refine Wp.reg ?_
    refine Q2 r_add ?_
    refine Qm ?_
    refine Sq.nil ?_
    obtain rfl:=some_in h
    exact Qrd g1 1
  ·refine Wp.exit ?_
   refine To.exit ?_
   obtain rfl:=some_in h
   exact Qlv g1 0
 ·clear hl
  rcases e1 with e1 | e1
  ·simp only [Sum.elim_inl] at h
   refine To.bexit ?_
   refine To.endn ?_
   refine To.bring 1 rfl ?_
   refine To.bring 1 rfl ?_
   obtain rfl:=some_in h
   exact To.endO0 g1 (.cons_cons _ (.cons_cons _ (.refl _))) rfl rfl
  ·simp only [Sum.elim_inr] at h
   refine To.bret ?_
   refine To.bring 1 rfl ?_
   refine To.bring 1 rfl ?_
   obtain rfl:=some_in h
   exact To.endO0 g1 (.cons_cons _ (.cons_cons _ (.refl _))) rfl rfl
theorem C_ref10_Same {x0 : T_api_Entry} {x1 : T_api_Entry}  {r : Bool} (h : L_ref10_Same x0 x1 = some r) : Meets Try.prog 89 [VP.of (x0), VP.of (x1)] (VP.of (r)) := by
 unfold L_ref10_Same at h
 refine Meets.of Try.func89 rfl Try.ntmps89 rfl fun W A => ?_
 refine Qsr ?_
 refine Qbx fun p1 => ?_
 refine Qbx fun p2 => ?_
 refine Qa ?_
 refine Qnr ?_
 refine Ql0 1 ty89 ?_
 refine Ql0 0 ty89 ?_
 obtain ⟨y1,hy1,h⟩:=Qbs h
 refine Qcl en124 (C_ref10_Compare hy1) ?_
 refine Q2 r_eql ?_
 refine Qa ?_
 refine Qnx ?_
 refine Wp.ret ?_
 obtain rfl:=some_in h
 exact Qe1
end Go.Proofs.Ytodajdohokmjnaa

namespace Go.Proofs.Ytodajdohokmjnaa
open Go Gv
set_option linter.unusedVariables false
set_option linter.unusedSimpArgs false
set_option maxRecDepth 100000
set_option maxHeartbeats 2000000
theorem Ch0_1_ordered_List_Put {x0 : T_ordered_List} {x1 : T_api_Installed} {pp0 : Nat} {key00_0 : Option Nat} {cap00_0 : Nat} {r : Bool × T_ordered_List} (h : Lh0_1_ordered_List_Put x0 x1 = some r) : MeetsO Try.prog 36 [VP.eq (.pointer (some ⟨pp0, 0, none⟩)), VP.of (x1)] [⟨some pp0, .varX (({ x0 with f_l := [] } : T_ordered_List) : T_ordered_List) [(10, slv key00_0 x0.f_l.length cap00_0)]⟩, ⟨key00_0, .row 92 (x0.f_l : List T_api_Installed) cap00_0⟩] (δ := (Option Nat × Nat)) (fun d => VP.of (r.1)) (fun d => [⟨some pp0, .varX (({ r.2 with f_l := [] } : T_ordered_List) : T_ordered_List) [(10, slv d.1 (r.2.f_l).length d.2)]⟩, ⟨d.1, .row 92 (r.2.f_l : List T_api_Installed) d.2⟩]) := by
 unfold Lh0_1_ordered_List_Put at h
 refine MeetsO.of Try.func36 rfl Try.ntmps36 rfl fun W A => ?_
 refine Qsr ?_
 refine Qbx fun p1 => ?_
 refine Qa ?_
 refine Qns ?_
 refine Qsr ?_
 refine Qm ?_
 refine Qv (r_pnil Try.underlying82 (look_t rfl)) ?_
 refine Qm ?_
 refine Qg1 r_move ?_
 refine Qg1 (r_fa fd92_1) ?_
 refine Qg (fun hb => r_load (i := 0) ((Lens.id T_api_Installed).comp le_T_api_Installed_Number) (r := x1.f_Number) ty3 (look_tc rfl hb) rfl rfl rfl) ?_
 obtain ⟨y1,hy1,h⟩:=Qbs h
 refine Qg (fun hb => HR.lendT (β := T_ordered_List) (γ := T_api_Installed) (b' := (x0 : T_ordered_List)) ((Lens.id T_ordered_List).comp le_T_ordered_List_l) 1 2 0 rfl rfl rfl rfl rfl rfl flat_int (HR.lend0 1 rfl flat_int (HR.lendV (z := (x0 : T_ordered_List)) 1 11 rfl (fun _ _ _ h => h.1 hb) rfl flat_int (r_call en82 (Cf0_ordered_List_find (condM_some hy1 hb)) ⟨look_t rfl, look_tc rfl hb, trivial⟩)))) ?_
 refine Qg2 r_geq ?_
 refine Qor ?_
 refine Qnx ?_
 refine Qcd h (fun h=>?_) fun h=>?_
 ·refine Qsr ?_
  refine Qa ?_
  refine Qnx ?_
  refine Wp.ret ?_
  refine To.ret ?_
  refine To.bring 2 rfl ?_
  refine To.bring 2 rfl ?_
  obtain rfl:=some_in h
  exact Qo1 (key00_0, cap00_0)
 ·refine Qkn ?_
  refine Qsr ?_
  refine Qm ?_
  refine Qv (r_mkB (look_t rfl)) ?_
  refine Qa ?_
  refine Qns ?_
  obtain ⟨y2,hy2,h⟩:=Qbs h
  refine Qwl [0, 1, 3, 4, 5, 8, 9, 10, 11, 12, 13, 14, 15, 16, 17, 18] ?_
  refine Wp.drawD mixed (Hp 20 [] [] _ :: Hp 21 (0 :: []) [] _ :: Hp 22 (1 :: []) [] _ :: Hp 23 (2 :: []) (1 :: []) _ :: Hp 24 [] (0 :: []) _ :: Hp 25 [] [] _ :: Hp 26 (3 :: 4 :: 5 :: []) (1 :: 2 :: []) _ :: Hp 19 (6 :: []) [] _ :: Hp 27 (7 :: []) [] _ :: Hp 28 (7 :: []) [] _ :: Hp 6 (8 :: []) [] _ :: Hp 7 (9 :: []) [] _ :: []) _ (0 :: 1 :: 3 :: 4 :: 5 :: 8 :: 9 :: 10 :: 11 :: 12 :: 13 :: 14 :: 15 :: 16 :: 17 :: 18 :: []) rfl rfl (by kernel_rfl) ⟨Dm, D1 r_nck, D1 (r_fa fd161_1), Dv fun hd E' L' hE hL => r_loadH (i := 1) (q := 0) (β := T_ordered_List) (γ := T_api_Installed) ty84 (look_t (hE _ _ rfl)) (hL 1 _ rfl rfl) rfl, Dl0 0 ty92, Dm, Dv fun hd E' L' hE hL => HR.lendTS (β := T_ordered_List) (γ := T_api_Installed) (b' := (x0 : T_ordered_List)) ((Lens.id T_ordered_List).comp le_T_ordered_List_l) 1 2 0 23 rfl (hL 1 _ rfl rfl) (hL 2 _ rfl rfl) rfl rfl rfl (hE _ _ rfl) (flat_tup2 flat_int flat_bool) (HR.lend0 1 (gss (gso rfl (hL 1 _ rfl rfl))) (flat_tup2 flat_int flat_bool) (HR.lendB2 (F := (fun a0 a1 => Lf0_ordered_List_order x0 a0 a1)) 1 25 (hE _ _ rfl) (gss (gss (gso rfl (hL 1 _ rfl rfl)))) en83 (fun _ _ _ h => Cf0_ordered_List_order h) (flat_tup2 flat_int flat_bool) (r_call en84 (C_slices_BinarySearchFunc_api_Installed hy2) ⟨look_t rfl, look_t (hE _ _ rfl), look_t rfl, trivial⟩))), Dm, Dv fun hd E' L' hE hL => r_ext (look_t (hE _ _ rfl)) rfl, Dv fun hd E' L' hE hL => r_ext (look_t (hE _ _ rfl)) rfl, Dv fun hd E' L' hE hL => r_asg (look_t (hE _ _ rfl)), Dv fun hd E' L' hE hL => r_asg (look_t (hE _ _ rfl)), trivial⟩ fun hd => ?_
  refine To.eqL (L2 := [⟨some p1, .var (x1 : T_api_Installed)⟩, ⟨some pp0, .varX (({ x0 with f_l := [] } : T_ordered_List) : T_ordered_List) [(10, slv key00_0 x0.f_l.length cap00_0)]⟩, ⟨key00_0, .row 92 (x0.f_l : List T_api_Installed) cap00_0⟩]) rfl ?_
  refine Qtl [0, 1, 3, 4, 5, 6, 7, 8, 9, 10, 11, 12, 13, 14, 15, 16, 17, 18, 19, 20, 21, 22, 23, 24, 25, 26, 27, 28] ?_
  refine To.next ?_
  refine Wp.seq ?_
  obtain ⟨y3,hy3,h⟩:=Qbs h
  obtain ⟨y4,hy4,h⟩:=Qbs h
  refine Wp.keep 1 ?_
  refine Qwl [0, 1, 3, 4, 5, 6, 7, 8, 9, 10, 11, 12, 13, 14, 15, 16, 17, 18, 19, 20, 21, 22, 23, 24, 25, 26, 27, 28] ?_
  refine Wp.drawD mixed (Hp 29 [] [] _ :: Hp 30 [] [] _ :: Hp 31 (1 :: []) [] _ :: Hp 32 (2 :: []) [] _ :: Hp 33 (3 :: []) (1 :: []) _ :: Hp 34 [] [] _ :: Hp 35 [] (0 :: []) _ :: Hp 36 (6 :: []) [] _ :: ⟨some 37, (7 :: []), (3 :: []), (3 :: []), fun hd => VP.eq (slv (hd 8 0) [y3].length 1), fun hd _ => ⟨(hd 8 0), .row 92 ([y3] : List T_api_Installed) 1⟩⟩ :: ⟨some 38, (4 :: 5 :: 8 :: []), (2 :: 3 :: []), (2 :: 3 :: []), fun hd => VP.eq (slv (hd 9 0) y4.length ((hd 9 1).getD 0)), fun hd j => bif Nat.beq j 2 then ⟨(hd 9 0), .row 92 (y4 : List T_api_Installed) ((hd 9 1).getD 0)⟩ else ⟨none, .dead⟩⟩ :: Hp 39 (0 :: []) [] _ :: Hp 40 (10 :: []) [] _ :: ⟨none, (4 :: 9 :: 11 :: []), (1 :: []), (1 :: []), fun _ => VP.any, fun hd _ => ⟨some pp0, .varX (({ x0 with f_l := [] } : T_ordered_List) : T_ordered_List) [(10, slv (hd 9 0) y4.length ((hd 9 1).getD 0))]⟩⟩ :: []) _ (0 :: 1 :: 3 :: 4 :: 5 :: 6 :: 7 :: 8 :: 9 :: 10 :: 11 :: 12 :: 13 :: 14 :: 15 :: 16 :: 17 :: 18 :: 19 :: 20 :: 21 :: 22 :: 23 :: 24 :: 25 :: 26 :: 27 :: 28 :: []) rfl rfl (by kernel_rfl) ⟨Dm, Dm, D1 r_nck, D1 (r_fa fd161_1), Dv fun hd E' L' hE hL => r_loadH (i := 1) (q := 0) (β := T_ordered_List) (γ := T_api_Installed) ty84 (look_t (hE _ _ rfl)) (hL 1 _ rfl rfl) rfl, Dm, Dl0 0 ty92, Dv fun hd E' L' hE hL => r_call en81 (C_own_Installed hy3) ⟨look_t (hE _ _ rfl), trivial⟩, ?_, ?_, D1 r_nck, D1 (r_fa fd161_1), ?_, trivial⟩ fun hd => ?_
  ·intro hd E' L' hE hL
   refine Sq.bslO (α := T_api_Installed) (r := [y3]) Try.underlying84 ty92 zr92 rfl rfl (.cons (by simp) (look_t (hE _ _ rfl)) (.nil)) rfl fun key1 => ?_
   refine Sq.nil ?_
   refine To.place 3 (hL 3 _ rfl rfl) ?_
   exact To.fin (gm [key1]) rfl rfl
  ·intro hd E' L' hE hL
   refine Sq.callO2 (fun q => ⟨q.1, .row 92 (y4 : List T_api_Installed) q.2⟩) 2 3 en85 (Cop0_2_slices_Insert_api_Installed hy4) ⟨look_t (hE _ _ rfl), look_t (hE _ _ rfl), look_t (hE _ _ rfl), trivial⟩ rfl (hL 2 _ rfl rfl) (hL 3 _ rfl rfl) (fun _ => rfl) rfl fun ⟨key2, cap1⟩ => ?_
   refine Sq.nil ?_
   exact To.fin (gm [key2, some cap1]) rfl rfl
  ·intro hd E' L' hE hL
   refine Sq.storeH (i := 1) (γ := T_api_Installed) (b' := (({ x0 with f_l := [] } : T_ordered_List) : T_ordered_List)) (os' := [(10, slv (hd 9 0) y4.length ((hd 9 1).getD 0))]) ((Lens.id T_ordered_List).comp le_T_ordered_List_l) ty84 (look_t (hE _ _ rfl)) (look_t (hE _ _ rfl)) slv_one (hL 1 _ rfl rfl) rfl rfl rfl ?_
   refine Sq.nil ?_
   exact To.fin (gm []) rfl rfl
  refine To.eqL (L2 := [⟨some p1, .var (x1 : T_api_Installed)⟩, ⟨some pp0, .varX (({ x0 with f_l := [] } : T_ordered_List) : T_ordered_List) [(10, slv (hd 9 0) y4.length ((hd 9 1).getD 0))]⟩, ⟨(hd 9 0), .row 92 (y4 : List T_api_Installed) ((hd 9 1).getD 0)⟩, ⟨none, .dead⟩]) rfl ?_
  refine Qtl [0, 1, 3, 4, 5, 6, 7, 8, 9, 10, 11, 12, 13, 14, 15, 16, 17, 18, 19, 20, 21, 22, 24, 25, 26, 27, 28, 29, 30, 31, 32, 34, 35, 36, 38, 39, 40] ?_
  refine To.bring 3 rfl ?_
  refine To.next ?_
  refine Qsr ?_
  refine Qa ?_
  refine Qnx ?_
  refine Wp.ret ?_
  refine To.bring 3 rfl ?_
  refine To.bring 3 rfl ?_
  obtain rfl:=some_in h
  exact Qo1 ((hd 9 0), ((hd 9 1).getD 0))
theorem Ch0_1_ordered_List_Lookup {x0 : T_ordered_List} {x1 : Vector T_api_Value 4} {pp0 : Nat} {key00_0 : Option Nat} {cap00_0 : Nat} {r : T_api_Installed × Bool} (h : Lh0_1_ordered_List_Lookup x0 x1 = some r) : MeetsO Try.prog 35 [VP.eq (.pointer (some ⟨pp0, 0, none⟩)), VP.of (x1)] [⟨some pp0, .varX (({ x0 with f_l := [] } : T_ordered_List) : T_ordered_List) [(10, slv key00_0 x0.f_l.length cap00_0)]⟩, ⟨key00_0, .row 92 (x0.f_l : List T_api_Installed) cap00_0⟩] (δ := Unit) (fun d => VP.tup [VP.of (r.1), VP.of (r.2)]) (fun d => [⟨some pp0, .varX (({ x0 with f_l := [] } : T_ordered_List) : T_ordered_List) [(10, slv key00_0 (x0.f_l).length cap00_0)]⟩, ⟨key00_0, .row 92 (x0.f_l : List T_api_Installed) cap00_0⟩]) := by
 unfold Lh0_1_ordered_List_Lookup at h
 refine MeetsO.ofM Try.func35 rfl Try.ntmps35 rfl fun W A => ?_
 refine Qsr ?_
 refine Qbx fun p1 => ?_
 refine Qal zr92 fun p2 => ?_
 refine Qal zr4 fun p3 => ?_
 refine Qns ?_
 refine Qsr ?_
 refine Qm ?_
 refine Qv (r_pnil Try.underlying82 (look_t rfl)) ?_
 refine Qnx ?_
 refine Wp.condF (look_t rfl) rfl ?_
 refine Qkn ?_
 refine Wp.seq ?_
 refine Qsr ?_
 refine Qm ?_
 refine Ql0 2 ty81 ?_
 obtain ⟨y1,hy1,h⟩:=Qbs h
 refine Qcl en80 (C_ordered_List_matching hy1) ?_
 refine Qnx ?_
 refine Wp.block ?_
 refine Wp.bring 4 rfl ?_
 refine Wp.bring 4 rfl ?_
 obtain ⟨e1,hl,h⟩:=Qbs h
 refine range_wp (γ := Unit) (g0 := ()) (Lin := [⟨some pp0, .varX (({ x0 with f_l := [] } : T_ordered_List) : T_ordered_List) [(10, slv key00_0 x0.f_l.length cap00_0)]⟩, ⟨key00_0, .row 92 (x0.f_l : List T_api_Installed) cap00_0⟩]) (Ls := fun s1 g1 => [⟨some p3, .var ((default : Bool) : Bool)⟩, ⟨some p2, .var ((default : T_api_Installed) : T_api_Installed)⟩, ⟨some p1, .var (x1 : Vector T_api_Value 4)⟩]) (Lx := fun q1 g1 => [⟨some p3, .var (q1.1 : Bool)⟩, ⟨some p2, .var (q1.2 : T_api_Installed)⟩, ⟨some p1, .var (x1 : Vector T_api_Value 4)⟩]) (fun q1 => .ret) rfl en114 rfl Ch1_1_ordered_List_matching_fn1 hl rfl rfl (fun vx1 s1 r h g1 W0' X' A0' l D rec hrs => ?_) (fun s1 hr g1 D => ?_) (fun q1 hr g1 D => ?_)
 ·clear hl
  refine Wp.reg ?_
  refine Qal zr92 fun p4 => ?_
  refine Qs0 0 ty92 ?_
  refine Sq.nil ?_
  refine To.begin 1 rfl hrs ?_
  refine Wp.block ?_
  refine Qsr ?_
  refine Ql0 0 ty92 ?_
  obtain ⟨y2,hy2,h⟩:=Qbs h
  refine Qcl en81 (C_own_Installed hy2) ?_
  refine Qs0 4 ty92 ?_
  refine Qs0 3 ty4 ?_
  refine Qnx ?_
  refine Wp.ret ?_
  refine To.bret ?_
  obtain rfl:=some_in h
  exact To.rleave () 1 rfl rfl rfl
 ·clear hl; subst hr; simp only [Sum.elim_inl] at h
  refine To.eqL (L2 := [⟨some D, .dfr⟩, ⟨some pp0, .varX (({ x0 with f_l := [] } : T_ordered_List) : T_ordered_List) [(10, slv key00_0 x0.f_l.length cap00_0)]⟩, ⟨key00_0, .row 92 (x0.f_l : List T_api_Installed) cap00_0⟩, ⟨some p3, .var ((default : Bool) : Bool)⟩, ⟨some p2, .var ((default : T_api_Installed) : T_api_Installed)⟩, ⟨some p1, .var (x1 : Vector T_api_Value 4)⟩]) rfl ?_
  refine To.bnorm ?_
  refine To.next ?_
  refine Qsr ?_
  refine Qbd bu92 zr92 (default : T_api_Installed) .nil ?_
  refine Qs0 4 ty92 ?_
  refine Qs0 3 ty4 ?_
  refine Qnx ?_
  refine Wp.ret ?_
  refine To.bring 2 rfl ?_
  refine To.bring 2 rfl ?_
  obtain rfl:=some_in h
  refine To.endD 2 rfl rfl ?_
  exact To.endO2 () (.cons_cons _ (.cons_cons _ (List.nil_sublist _))) rfl rfl (rvo_c (i := 4) ty92 rfl rfl) (rvo_c (i := 3) ty4 rfl rfl)
 ·clear hl; subst hr; simp only [Sum.elim_inr] at h
  refine Wp.ret ?_
  refine To.eqL (L2 := [⟨some D, .dfr⟩, ⟨some pp0, .varX (({ x0 with f_l := [] } : T_ordered_List) : T_ordered_List) [(10, slv key00_0 x0.f_l.length cap00_0)]⟩, ⟨key00_0, .row 92 (x0.f_l : List T_api_Installed) cap00_0⟩, ⟨some p3, .var (q1.1 : Bool)⟩, ⟨some p2, .var (q1.2 : T_api_Installed)⟩, ⟨some p1, .var (x1 : Vector T_api_Value 4)⟩]) rfl ?_
  refine To.bret ?_
  refine To.ret ?_
  refine To.bring 2 rfl ?_
  refine To.bring 2 rfl ?_
  obtain rfl:=some_in h
  refine To.endD 2 rfl rfl ?_
  exact To.endO2 () (.cons_cons _ (.cons_cons _ (List.nil_sublist _))) rfl rfl (rvo_c (i := 4) ty92 rfl rfl) (rvo_c (i := 3) ty4 rfl rfl)
theorem C_ref13_Same {x0 : T_api_Installed} {x1 : T_api_Installed}  {r : Bool} (h : L_ref13_Same x0 x1 = some r) : Meets Try.prog 38 [VP.of (x0), VP.of (x1)] (VP.of (r)) := by
 unfold L_ref13_Same at h
 refine Meets.of Try.func38 rfl Try.ntmps38 rfl fun W A => ?_
 refine Qsr ?_
 refine Qbx fun p1 => ?_
 refine Qbx fun p2 => ?_
 refine Qa ?_
 refine Qnr ?_
 refine Q1 (r_fa fd92_0) ?_
 refine Qld 1 le_T_api_Installed_Entry ty89 ?_
 refine Q1 (r_fa fd92_0) ?_
 refine Qld 0 le_T_api_Installed_Entry ty89 ?_
 obtain ⟨y1,hy1,h⟩:=Qbs h
 refine Qcl en89 (C_ref10_Same hy1) ?_
 refine Qm ?_
 refine Qg1 (r_fa fd92_1) ?_
 refine Qg (fun hb => r_load (i := 1) ((Lens.id T_api_Installed).comp le_T_api_Installed_Number) (r := x0.f_Number) ty3 (look_tc rfl hb) rfl rfl rfl) ?_
 refine Qg1 (r_fa fd92_1) ?_
 refine Qg (fun hb => r_load (i := 0) ((Lens.id T_api_Installed).comp le_T_api_Installed_Number) (r := x1.f_Number) ty3 (look_tc rfl hb) rfl rfl rfl) ?_
 refine Qg2 r_eql ?_
 refine Qan ?_
 refine Qm ?_
 refine Qg1 (r_fa fd92_2) ?_
 refine Qg (fun hb => r_load (i := 1) ((Lens.id T_api_Installed).comp le_T_api_Installed_Owner) (r := x0.f_Owner) ty3 (look_tc rfl hb) rfl rfl rfl) ?_
 refine Qg1 (r_fa fd92_2) ?_
 refine Qg (fun hb => r_load (i := 0) ((Lens.id T_api_Installed).comp le_T_api_Installed_Owner) (r := x1.f_Owner) ty3 (look_tc rfl hb) rfl rfl rfl) ?_
 refine Qg2 r_eql ?_
 refine Qan ?_
 refine Qa ?_
 refine Qnx ?_
 refine Wp.ret ?_
 obtain rfl:=some_in h
 exact Qe1
end Go.Proofs.Ytodajdohokmjnaa

namespace Go.Proofs.Ytodajdohokmjnaa
open Go Gv
set_option linter.unusedVariables false
set_option linter.unusedSimpArgs false
set_option maxRecDepth 100000
set_option maxHeartbeats 2000000
theorem Ch0_1_law13_put {x0 : T_ordered_List} {x1 : T_mcase_Codes} {x2 : T_api_Schema} {x3 : Int} {x4 : Int} {pp0 : Nat} {key00_0 : Option Nat} {cap00_0 : Nat} {pp1 : Nat} {r : (List T_api_Installed) × Bool × T_ordered_List × T_mcase_Codes} (h : Lh0_1_law13_put x0 x1 x2 x3 x4 = some r) : MeetsO Try.prog 31 [VP.eq (.pointer (some ⟨pp0, 0, none⟩)), VP.eq (.pointer (some ⟨pp1, 0, none⟩)), VP.of (x2), VP.of (x3), VP.of (x4)] [⟨some pp0, .varX (({ x0 with f_l := [] } : T_ordered_List) : T_ordered_List) [(10, slv key00_0 x0.f_l.length cap00_0)]⟩, ⟨key00_0, .row 92 (x0.f_l : List T_api_Installed) cap00_0⟩, ⟨some pp1, .var (x1 : T_mcase_Codes)⟩] (δ := (Option Nat × Nat)) (fun d => VP.tup [VP.of (r.1), VP.of (r.2.1)]) (fun d => [⟨some pp0, .varX (({ r.2.2.1 with f_l := [] } : T_ordered_List) : T_ordered_List) [(10, slv d.1 (r.2.2.1.f_l).length d.2)]⟩, ⟨d.1, .row 92 (r.2.2.1.f_l : List T_api_Installed) d.2⟩, ⟨some pp1, .var (r.2.2.2 : T_mcase_Codes)⟩]) := by
 unfold Lh0_1_law13_put at h
 refine MeetsO.of Try.func31 rfl Try.ntmps31 rfl fun W A => ?_
 refine Qsr ?_
 refine Qbx fun p1 => ?_
 refine Qv (r_asg (look_nil (α := T_api_Installed))) ?_
 refine Qa ?_
 refine Qnr ?_
 refine Sq.own (α := T_api_Installed) 92 ?_
 refine Qv (r_asg look_own) ?_
 refine Qns ?_
 refine Qsr ?_
 refine Qa ?_
 refine Qnx ?_
 refine Wp.block ?_
 obtain ⟨e1,hl,h⟩:=Qbs h
 refine Qlp (γ:=(Option Nat × Nat) × (Option Nat × Nat)) (δ:=(Option Nat × Nat) × (Option Nat × Nat)) hl [0, 1, 2, 3, 4, 7, 10, 11] (fun s1 g1 => [(12, VP.eq (slv g1.1.1 s1.2.1.length g1.1.2)), (13, VP.of (s1.1))]) (fun s1 g1 => [(0, ⟨g1.1.1, .row 92 (s1.2.1 : List T_api_Installed) g1.1.2⟩), (2, ⟨some pp0, .varX (s1.2.2.1 : T_ordered_List) [(10, slv g1.2.1 s1.2.2.2.1.length g1.2.2)]⟩), (3, ⟨g1.2.1, .row 92 (s1.2.2.2.1 : List T_api_Installed) g1.2.2⟩), (4, ⟨some pp1, .var (s1.2.2.2.2 : T_mcase_Codes)⟩)]) (fun q1 => Sum.elim (fun q1 => Exit.exit 0) (fun q1 => Exit.ret) q1) (fun q1 g1 => Sum.elim (fun q1 => [(12, VP.eq (slv g1.1.1 q1.2.2.1.length g1.1.2)), (13, VP.of (q1.1)), (24, VP.of (q1.2.1))]) (fun q1 => [(12, VP.eq (slv g1.1.1 q1.2.2.2.2.2.2.2.1.length g1.1.2)), (13, VP.of (q1.1)), (15, VP.of (q1.2.1)), (24, VP.of (q1.2.2.1)), (36, VP.eq (slv g1.1.1 q1.2.2.2.2.2.2.2.1.length g1.1.2)), (37, VP.of (q1.2.2.2.1)), (38, VP.of (q1.2.2.2.2.1)), (39, VP.of (q1.2.2.2.2.2.1)), (55, VP.of (q1.2.2.2.2.2.2.1))]) q1) (fun q1 g1 => Sum.elim (fun q1 => [(0, ⟨g1.1.1, .row 92 (q1.2.2.1 : List T_api_Installed) g1.1.2⟩), (2, ⟨some pp0, .varX (q1.2.2.2.1 : T_ordered_List) [(10, slv g1.2.1 q1.2.2.2.2.1.length g1.2.2)]⟩), (3, ⟨g1.2.1, .row 92 (q1.2.2.2.2.1 : List T_api_Installed) g1.2.2⟩), (4, ⟨some pp1, .var (q1.2.2.2.2.2 : T_mcase_Codes)⟩)]) (fun q1 => [(0, ⟨g1.1.1, .row 92 (q1.2.2.2.2.2.2.2.1 : List T_api_Installed) g1.1.2⟩), (2, ⟨some pp0, .varX (q1.2.2.2.2.2.2.2.2.1 : T_ordered_List) [(10, slv g1.2.1 q1.2.2.2.2.2.2.2.2.2.1.length g1.2.2)]⟩), (3, ⟨g1.2.1, .row 92 (q1.2.2.2.2.2.2.2.2.2.1 : List T_api_Installed) g1.2.2⟩), (4, ⟨some pp1, .var (q1.2.2.2.2.2.2.2.2.2.2 : T_mcase_Codes)⟩)]) q1) ((none, 0), (key00_0, cap00_0)) (fun s1 r h g1 => ?_) fun g1 => ?_
 ·clear hl
  refine Wp.seq ?_
  refine Qsr ?_
  refine Qm ?_
  refine Qm ?_
  refine Q2 r_lss ?_
  refine Qm ?_
  refine Qg1 r_move ?_
  obtain ⟨y1,hy1,h⟩:=Qbs h
  refine Qg (fun hb => HR.lendV (z := (s1.2.2.2.2 : T_mcase_Codes)) 4 22 rfl (fun _ _ _ h => h.1 hb) rfl flat_bool (r_call en76 (Cf0_mcase_Codes_Left (condM_some hy1 hb)) ⟨look_t rfl, trivial⟩)) ?_
  refine Qan ?_
  refine Qnx ?_
  refine Qcd h (fun h=>?_) fun h=>?_
  ·refine Qkn ?_
   refine Wp.seq ?_
   refine Wp.block ?_
   refine Qsr ?_
   refine Qm ?_
   refine Ql0 1 ty33 ?_
   refine Qm ?_
   refine Sq.bring 4 rfl ?_
   obtain ⟨y2,hy2,h⟩:=Qbs h
   refine QcO 1 en32 (C_mcase_Codes_Entry hy2) fun q2 => ?_
   refine Qm ?_
   refine Sq.bring 0 rfl ?_
   obtain ⟨y3,hy3,h⟩:=Qbs h
   refine QcO 1 en49 (C_mcase_Codes_Next hy3) fun q3 => ?_
   refine Qm ?_
   refine Sq.bring 0 rfl ?_
   obtain ⟨y4,hy4,h⟩:=Qbs h
   refine QcO 1 en49 (C_mcase_Codes_Next hy4) fun q4 => ?_
   obtain ⟨z1,hz1,h⟩:=Qbs h
   refine Qn hz1 (r_build (b := { f_Entry := y2.1, f_Number := y3.1, f_Owner := y4.1 : T_api_Installed }) rfl bu92 zr92 (.cons le_T_api_Installed_Entry rfl (look_t rfl) rfl (.cons le_T_api_Installed_Number rfl (look_t rfl) rfl (.cons le_T_api_Installed_Owner rfl (look_t rfl) rfl (.nil))))) ?_
   refine Qal zr92 fun p2 => ?_
   refine Qs0 0 ty92 ?_
   refine Qnr ?_
   refine Qa ?_
   refine Qns ?_
   refine Qsr ?_
   refine Qm ?_
   refine Qv (r_lenO (i := 2) Try.underlying84 (look_t rfl) rfl rfl) ?_
   refine Qm ?_
   refine Qnx ?_
   refine Wp.block ?_
   obtain ⟨e2,hl,h⟩:=Qbs h
   refine Qlp (γ:=Unit) (δ:=Unit) hl [0, 1, 2, 3, 4, 7, 10, 11, 12, 13, 14, 24, 36, 37] (fun s2 g2 => [(15, VP.of (s2.1)), (38, VP.of (s2.2))]) (fun s2 g2 => []) (fun q5 => Exit.exit 2) (fun q5 g2 => [(15, VP.of (q5.1)), (38, VP.of (q5.2.1)), (39, VP.of (q5.2.2))]) (fun q5 g2 => []) () (fun s2 r h g2 => ?_) fun g2 => ?_
   ·clear hl
    refine Qsr ?_
    refine Q2 r_lss ?_
    refine Qns ?_
    refine Qcd h (fun h=>?_) fun h=>?_
    ·refine Qkn ?_
     refine Wp.seq ?_
     refine Wp.block ?_
     refine Qsr ?_
     obtain ⟨k1,hk1,h⟩:=Qbs h
     refine Qv (r_iaO (i := 2) (k := k1) (xs := (s1.2.1 : List T_api_Installed)) Try.underlying84 ty92 (look_t rfl) (look_t rfl) rfl (idx_some hk1)) ?_
     refine Qv (r_loadR (i := 2) (k := k1) (Lens.id T_api_Installed) (r := (lget s1.2.1 k1)) ty92 (look_t rfl) rfl (idx_some hk1).1 rfl rfl) ?_
     refine Qal zr92 fun p3 => ?_
     refine Qs0 0 ty92 ?_
     refine Qnx ?_
     refine Wp.reg ?_
     refine Qm ?_
     refine Qm ?_
     refine Qg1 (r_fa fd92_1) ?_
     refine Qg (fun hb => r_load (i := 0) ((Lens.id T_api_Installed).comp le_T_api_Installed_Number) (r := (lget s1.2.1 k1).f_Number) ty3 (look_tc rfl hb) rfl rfl rfl) ?_
     refine Qg1 (r_fa fd92_1) ?_
     refine Qg (fun hb => r_load (i := 1) ((Lens.id T_api_Installed).comp le_T_api_Installed_Number) (r := z1.f_Number) ty3 (look_tc rfl hb) rfl rfl rfl) ?_
     refine Qg2 r_eql ?_
     refine Qor ?_
     refine Qa ?_
     refine Sq.nil ?_
     refine To.bnorm ?_
     refine To.next ?_
     refine Wp.reg ?_
     refine Q2 r_add ?_
     refine Qm ?_
     refine Sq.nil ?_
     obtain rfl:=some_in h
     exact Qrd () 1
    ·refine Wp.exit ?_
     refine To.exit ?_
     obtain rfl:=some_in h
     exact Qlv () 0
   ·clear hl
    refine To.bexit ?_
    refine To.next ?_
    refine Wp.seq ?_
    refine Qsr ?_
    refine Qm ?_
    refine Ql0 0 ty92 ?_
    refine Sq.clr (γ := T_api_Installed) (b' := (({ s1.2.2.1 with f_l := [] } : T_ordered_List) : T_ordered_List)) ((Lens.id T_ordered_List).comp le_T_ordered_List_l) 4 0 rfl rfl rfl ?_
    refine Sq.bring 5 rfl ?_
    refine Sq.bring 5 rfl ?_
    obtain ⟨y5,hy5,h⟩:=Qbs h
    refine QcO 2 en36 (Ch0_1_ordered_List_Put hy5) fun q6 => ?_
    refine Qm ?_
    refine Q2 (r_beq Try.underlying4) ?_
    refine Qnx ?_
    refine Qcd h (fun h=>?_) fun h=>?_
    ·refine Qsr ?_
     refine Qv (r_asg (look_nil (α := T_api_Installed))) ?_
     refine Qa ?_
     refine Qnx ?_
     refine Wp.ret ?_
     refine To.ret ?_
     refine To.bret ?_
     refine To.ret ?_
     refine To.bring 5 rfl ?_
     refine To.bring 5 rfl ?_
     refine To.bring 4 rfl ?_
     obtain rfl:=some_in h
     exact Qlv ((g1.1.1, g1.1.2), (q6.1, q6.2)) 1
    ·refine Qkn ?_
     refine Qsr ?_
     refine Qm ?_
     refine Q1 r_not ?_
     refine Qnx ?_
     obtain ⟨m1,hm1,h⟩:=Qbs h
     refine Qcm (γ:=(Option Nat × Nat)) [0, 1, 2, 3, 4, 7, 10, 11, 13, 14, 15, 24, 37, 38, 39, 55, 57] (fun g3 => [(12, VP.eq (slv g3.1 m1.length g3.2))]) (fun g3 => [(4, ⟨g3.1, .row 92 (m1 : List T_api_Installed) g3.2⟩)]) (fun g3 => ?_) (fun hm hc => ?_) fun hm hc => ?_
     ·clear hm1
      refine To.bnorm ?_
      refine To.next ?_
      refine Wp.reg ?_
      refine Qm ?_
      refine Q2 r_add ?_
      refine Qa ?_
      refine Sq.nil ?_
      refine To.bring 5 rfl ?_
      refine To.bring 5 rfl ?_
      refine To.bring 4 rfl ?_
      obtain rfl:=some_in h
      exact Qrd ((g3.1, g3.2), (q6.1, q6.2)) 1
     ·have h := cond_t hc hm1
      refine Wp.reg ?_
      refine Qm ?_
      refine Ql0 2 ty92 ?_
      refine Qbl [z1] Try.underlying84 ty92 zr92 ?_
      obtain ⟨y6,hy6,h⟩:=Qbs h
      refine Qap 4 Try.underlying84 ty92 zr92 hy6 fun key1 cap1 => ?_
      refine Qa ?_
      refine Sq.nil ?_
      obtain rfl:=some_in h
      exact Qmt 0 (hm (key1, cap1))
     ·have h := cond_f hc hm1
      refine Wp.skip ?_
      obtain rfl:=some_in h
      exact Qmt 0 (hm (g1.1.1, g1.1.2))
  ·refine Wp.exit ?_
   refine To.exit ?_
   obtain rfl:=some_in h
   exact Qlv ((g1.1.1, g1.1.2), (g1.2.1, g1.2.2)) 0
 ·clear hl
  rcases e1 with e1 | e1
  ·simp only [Sum.elim_inl] at h
   refine To.bexit ?_
   refine To.next ?_
   refine Qsr ?_
   refine Qm ?_
   refine Qa ?_
   refine Qa ?_
   refine Qnx ?_
   refine Wp.ret ?_
   refine To.freezeL (α := T_api_Installed) 0 [10, 12, 62] ⟨rfl, rfl, rfl, trivial⟩ rfl ?_
   refine To.clr (γ := T_api_Installed) (b' := (({ e1.2.2.2.1 with f_l := [] } : T_ordered_List) : T_ordered_List)) ((Lens.id T_ordered_List).comp le_T_ordered_List_l) 2 0 rfl rfl rfl ?_
   refine To.bring 4 rfl ?_
   refine To.bring 4 rfl ?_
   refine To.bring 4 rfl ?_
   obtain rfl:=some_in h
   exact Qo2 (g1.2.1, g1.2.2)
  ·simp only [Sum.elim_inr] at h
   refine To.bret ?_
   refine To.ret ?_
   refine To.clr (γ := T_api_Installed) (b' := (({ e1.2.2.2.2.2.2.2.2.1 with f_l := [] } : T_ordered_List) : T_ordered_List)) ((Lens.id T_ordered_List).comp le_T_ordered_List_l) 2 0 rfl rfl rfl ?_
   refine To.bring 4 rfl ?_
   refine To.bring 4 rfl ?_
   refine To.bring 4 rfl ?_
   obtain rfl:=some_in h
   exact Qo2 (g1.2.1, g1.2.2)
theorem C_law13_begun   {r : Bool} (h : L_law13_begun  = some r) : Meets Try.prog 39 [] (VP.of (r)) := by
 unfold L_law13_begun at h
 refine Meets.of Try.func39 rfl Try.ntmps39 rfl fun W A => ?_
 refine Qsr ?_
 refine Qa ?_
 refine Qnr ?_
 obtain ⟨y1,hy1,h⟩:=Qbs h
 refine QcO 0 en12 (C_mcase_New hy1) fun q1 => ?_
 refine Sq.bring 0 rfl ?_
 obtain ⟨y2,hy2,h⟩:=Qbs h
 refine QcO 1 en13 (C_mcase_Codes_Schema hy2) fun q2 => ?_
 refine Qal zr33 fun p1 => ?_
 refine Qs0 0 ty33 ?_
 refine Qnr ?_
 refine Ql0 0 ty33 ?_
 obtain ⟨y3,hy3,h⟩:=Qbs h
 refine QcO 0 en30 (Cq0_1_ordered_New hy3) fun q3 => ?_
 refine Qa ?_
 refine Qnr ?_
 obtain ⟨y4,hy4,h⟩:=Qbs h
 refine Sq.mks Try.underlying87 ty104 zr104 rfl (by kernel_rfl) (look_int 2) (look_int 2) hy4 rfl fun key1 => ?_
 refine Sq.freeze (α := T_api_Match) 0 11 rfl rfl ?_
 obtain ⟨z1,hz1,h⟩:=Qbs h
 refine Qn hz1 (r_build (b := ({ (default : T_api_Entry) with f_Table := 3, f_Matches := y4, f_Priority := 3, f_Action := 1 } : T_api_Entry)) rfl bu89 zr89 (.cons le_T_api_Entry_Table rfl (look_int 3) rfl (.cons le_T_api_Entry_Matches rfl (look_t rfl) rfl (.cons le_T_api_Entry_Priority rfl (look_int 3) rfl (.cons le_T_api_Entry_Action rfl (look_int 1) rfl (.nil)))))) ?_
 refine Qal zr89 fun p2 => ?_
 refine Qs0 0 ty89 ?_
 refine Qnr ?_
 refine Ql0 0 ty89 ?_
 refine Qal zr89 fun p3 => ?_
 refine Qs0 0 ty89 ?_
 refine Qnr ?_
 refine Q1 (r_fa fd89_2) ?_
 refine Qst 0 le_T_api_Entry_Priority ty3 ?_
 refine Qnr ?_
 refine Qm ?_
 refine Ql0 1 ty89 ?_
 obtain ⟨z2,hz2,h⟩:=Qbs h
 refine Qn hz2 (r_build (b := ({ (default : T_api_Installed) with f_Entry := z1, f_Number := 9 } : T_api_Installed)) rfl bu92 zr92 (.cons le_T_api_Installed_Entry rfl (look_t rfl) rfl (.cons le_T_api_Installed_Number rfl (look_int 9) rfl (.nil)))) ?_
 refine Sq.bring 4 rfl ?_
 refine Sq.bring 4 rfl ?_
 obtain ⟨y5,hy5,h⟩:=Qbs h
 refine QcO 2 en36 (Ch0_1_ordered_List_Put hy5) fun q4 => ?_
 refine Qnr ?_
 refine Qm ?_
 refine Ql0 2 ty89 ?_
 obtain ⟨z3,hz3,h⟩:=Qbs h
 refine Qn hz3 (r_build (b := ({ (default : T_api_Installed) with f_Entry := ({ z1 with f_Priority := 5 } : T_api_Entry), f_Number := 8 } : T_api_Installed)) rfl bu92 zr92 (.cons le_T_api_Installed_Entry rfl (look_t rfl) rfl (.cons le_T_api_Installed_Number rfl (look_int 8) rfl (.nil)))) ?_
 refine Sq.bring 1 rfl ?_
 refine Sq.bring 1 rfl ?_
 obtain ⟨y6,hy6,h⟩:=Qbs h
 refine QcO 2 en36 (Ch0_1_ordered_List_Put hy6) fun q5 => ?_
 refine Qnr ?_
 refine Qm ?_
 refine Qv (r_buildA (b := (default : Vector T_api_Value 4)) (sz := 2) rfl Try.underlying81 (by kernel_rfl) zr81 (.nil)) ?_
 obtain ⟨y7,hy7,h⟩:=Qbs h
 refine Sq.vS (HS.call [0, 1] en35 (Ch0_1_ordered_List_Lookup hy7) ⟨look_t rfl, look_t rfl, trivial⟩ rfl ⟨rfl, rfl, trivial⟩ rfl) rfl rfl rfl ?_
 refine Qm ?_
 refine Qxt ?_
 refine Qxt ?_
 refine Qal zr92 fun p4 => ?_
 refine Qs0 0 ty92 ?_
 refine Qa ?_
 refine Qnr ?_
 refine Qm ?_
 refine Qm ?_
 refine Qg1 (r_fa fd92_1) ?_
 refine Qg (fun hb => r_load (i := 0) ((Lens.id T_api_Installed).comp le_T_api_Installed_Number) (r := y7.1.f_Number) ty3 (look_tc rfl hb) rfl rfl rfl) ?_
 refine Qg2 r_eql ?_
 refine Qan ?_
 refine Qm ?_
 refine Qg1 r_move ?_
 obtain ⟨y8,hy8,h⟩:=Qbs h
 refine Qg (fun hb => HR.lendT (β := T_ordered_List) (γ := T_api_Installed) (b' := (y6.2 : T_ordered_List)) ((Lens.id T_ordered_List).comp le_T_ordered_List_l) 1 2 0 rfl rfl rfl rfl rfl rfl flat_int (HR.lend0 1 rfl flat_int (HR.lendV (z := (y6.2 : T_ordered_List)) 1 36 rfl (fun _ _ _ h => h.1 hb) rfl flat_int (r_call en46 (Cf0_ordered_List_Len (condM_some hy8 hb)) ⟨look_t rfl, trivial⟩)))) ?_
 refine Qg2 r_eql ?_
 refine Qan ?_
 refine Qa ?_
 refine Qnx ?_
 refine Wp.ret ?_
 obtain rfl:=some_in h
 exact Qe1
theorem C_ref13_SameAll {x0 : List T_api_Installed} {x1 : List T_api_Installed}  {r : Bool} (h : L_ref13_SameAll x0 x1 = some r) : Meets Try.prog 43 [VP.of (x0), VP.of (x1)] (VP.of (r)) := by
 unfold L_ref13_SameAll at h
 refine Meets.of Try.func43 rfl Try.ntmps43 rfl fun W A => ?_
 refine Qsr ?_
 refine Qa ?_
 refine Qns ?_
 refine Qsr ?_
 refine Qm ?_
 refine Q1 (r_len Try.underlying84) ?_
 refine Qm ?_
 refine Q1 (r_len Try.underlying84) ?_
 refine Q2 r_neq ?_
 refine Qnx ?_
 refine Qcd h (fun h=>?_) fun h=>?_
 ·refine Qsr ?_
  refine Qa ?_
  refine Qnx ?_
  refine Wp.ret ?_
  refine To.ret ?_
  obtain rfl:=some_in h
  exact Qe1
 ·refine Qkn ?_
  refine Wp.seq ?_
  refine Qsr ?_
  refine Qm ?_
  refine Q1 (r_len Try.underlying84) ?_
  refine Qm ?_
  refine Qnx ?_
  refine Wp.block ?_
  obtain ⟨e1,hl,h⟩:=Qbs h
  refine Qlp (γ:=Unit) (δ:=Unit) hl [0, 1, 4, 10, 12] (fun s1 g1 => [(13, VP.of (s1))]) (fun s1 g1 => []) (fun q1 => Sum.elim (fun q1 => Exit.exit 0) (fun q1 => Exit.ret) q1) (fun q1 g1 => Sum.elim (fun q1 => [(13, VP.of (q1.1)), (14, VP.of (q1.2))]) (fun q1 => [(5, VP.of (q1.1)), (13, VP.of (q1.2.1)), (14, VP.of (q1.2.2.1)), (25, VP.of (q1.2.2.2))]) q1) (fun q1 g1 => Sum.elim (fun q1 => []) (fun q1 => []) q1) () (fun s1 r h g1 => ?_) fun g1 => ?_
  ·clear hl
   refine Qsr ?_
   refine Q2 r_lss ?_
   refine Qns ?_
   refine Qcd h (fun h=>?_) fun h=>?_
   ·refine Qkn ?_
    refine Wp.seq ?_
    refine Wp.block ?_
    refine Qsr ?_
    refine Qm ?_
    refine Qa ?_
    refine Qns ?_
    obtain ⟨k1,hk1,h⟩:=Qbs h
    obtain ⟨k2,hk2,h⟩:=Qbs h
    obtain ⟨y1,hy1,h⟩:=Qbs h
    refine Wp.draw mixed 10 [some 16, some 17, some 18, some 19, some 20, some 21, some 22, some 23, some 24, some 25] [[], [], [0, 1], [2], [], [], [4, 5], [6], [3, 7], [8]] [.val _, .val _, .val _, .val _, .val _, .val _, .val _, .val _, .val _, .val _] [false, false, false, false, false, false, false, false, false, false] (by kernel_rfl) rfl rfl rfl (fun ps1 => ⟨Hm, Hm, Hix hk1 Try.underlying84 ty92, H1 (r_loadp ty92), Hm, Hm, Hix hk2 Try.underlying84 ty92, H1 (r_loadp ty92), Hcl en38 (C_ref13_Same hy1), H1 r_not, trivial⟩) fun ps1 => ?_
    refine Qnx ?_
    refine Qcd h (fun h=>?_) fun h=>?_
    ·refine Qsr ?_
     refine Qa ?_
     refine Qnx ?_
     refine Wp.ret ?_
     refine To.bret ?_
     refine To.ret ?_
     obtain rfl:=some_in h
     exact Qlv () 0
    ·refine Wp.skip ?_
     refine To.bnorm ?_
     refine To.next ?_
     refine Wp.reg ?_
     refine Q2 r_add ?_
     refine Qm ?_
     refine Sq.nil ?_
     obtain rfl:=some_in h
     exact Qrd () 0
   ·refine Wp.exit ?_
    refine To.exit ?_
    obtain rfl:=some_in h
    exact Qlv () 0
  ·clear hl
   rcases e1 with e1 | e1
   ·simp only [Sum.elim_inl] at h
    refine To.bexit ?_
    refine To.next ?_
    refine Qsr ?_
    refine Qa ?_
    refine Qnx ?_
    refine Wp.ret ?_
    obtain rfl:=some_in h
    exact Qe1
   ·simp only [Sum.elim_inr] at h
    refine To.bret ?_
    refine To.ret ?_
    obtain rfl:=some_in h
    exact Qe1
end Go.Proofs.Ytodajdohokmjnaa

namespace Go.Proofs.Ytodajdohokmjnaa
open Go Gv
set_option linter.unusedVariables false
set_option linter.unusedSimpArgs false
set_option maxRecDepth 100000
set_option maxHeartbeats 2000000
theorem C_law13_OrderedLocal {x0 : List (BitVec 8)} {x1 : List (BitVec 8)} {x2 : Int} {x3 : Vector T_api_Value 4}  {r : Bool} (h : L_law13_OrderedLocal x0 x1 x2 x3 = some r) : Meets Try.prog 7 [VP.of (x0), VP.of (x1), VP.of (x2), VP.of (x3)] (VP.of (r)) := by
 unfold L_law13_OrderedLocal at h
 refine Meets.of Try.func7 rfl Try.ntmps7 rfl fun W A => ?_
 refine Qsr ?_
 refine Qbx fun p1 => ?_
 refine Qa ?_
 refine Qnr ?_
 refine Qm ?_
 obtain ⟨y1,hy1,h⟩:=Qbs h
 refine QcO 0 en12 (C_mcase_New hy1) fun q1 => ?_
 refine Sq.bring 0 rfl ?_
 obtain ⟨y2,hy2,h⟩:=Qbs h
 refine QcO 1 en13 (C_mcase_Codes_Schema hy2) fun q2 => ?_
 refine Qm ?_
 obtain ⟨y3,hy3,h⟩:=Qbs h
 refine QcO 0 en12 (C_mcase_New hy3) fun q3 => ?_
 refine Qal zr33 fun p2 => ?_
 refine Qs0 0 ty33 ?_
 refine Qa ?_
 refine Qnr ?_
 refine Ql0 0 ty33 ?_
 obtain ⟨y4,hy4,h⟩:=Qbs h
 refine QcO 0 en30 (Cq0_1_ordered_New hy4) fun q4 => ?_
 refine Qa ?_
 refine Qnr ?_
 refine Qm ?_
 refine Qm ?_
 refine Ql0 2 ty33 ?_
 refine Qm ?_
 refine Sq.bring 3 rfl ?_
 refine Sq.bring 2 rfl ?_
 refine Sq.bring 2 rfl ?_
 obtain ⟨y5,hy5,h⟩:=Qbs h
 refine QcO 3 en31 (Ch0_1_law13_put hy5) fun q5 => ?_
 refine Qm ?_
 refine Qxt ?_
 refine Qxt ?_
 refine Qa ?_
 refine Qa ?_
 refine Qns ?_
 refine Qsr ?_
 refine Qm ?_
 refine Q1 r_not ?_
 refine Qnx ?_
 refine Qcd h (fun h=>?_) fun h=>?_
 ·refine Qsr ?_
  refine Qa ?_
  refine Qnx ?_
  refine Wp.ret ?_
  refine To.ret ?_
  obtain rfl:=some_in h
  exact Qe1
 ·refine Qkn ?_
  refine Qsr ?_
  refine Qm ?_
  refine Ql0 3 ty33 ?_
  refine Qm ?_
  refine Sq.bring 2 rfl ?_
  obtain ⟨y6,hy6,h⟩:=Qbs h
  refine QcO 1 en32 (C_mcase_Codes_Entry hy6) fun q6 => ?_
  obtain ⟨z1,hz1,h⟩:=Qbs h
  refine Qn hz1 (r_build (b := ({ (default : T_api_Installed) with f_Entry := y6.1, f_Number := 100 } : T_api_Installed)) rfl bu92 zr92 (.cons le_T_api_Installed_Entry rfl (look_t rfl) rfl (.cons le_T_api_Installed_Number rfl (look_int 100) rfl (.nil)))) ?_
  refine Qal zr92 fun p3 => ?_
  refine Qs0 0 ty92 ?_
  refine Qns ?_
  obtain ⟨y7,hy7,h⟩:=Qbs h
  obtain ⟨y8,hy8,h⟩:=Qbs h
  obtain ⟨y9,hy9,h⟩:=Qbs h
  refine Wp.keep 1 ?_
  refine Qwl [0, 1, 2, 3, 7, 8, 9, 10, 11, 12, 13, 14, 29, 30, 31, 32, 33, 34, 35, 36, 37, 38, 39, 40, 41, 42, 43, 44, 45, 46, 47, 48, 49, 50] ?_
  refine Wp.drawD mixed (Hp 51 [] (6 :: []) _ :: Hp 52 [] [] _ :: ⟨some 53, (1 :: []), (1 :: []), (1 :: []), fun _ => VP.of (y7.1), fun hd _ => ⟨some q3, .var (y7.2 : T_mcase_Codes)⟩⟩ :: Hp 54 [] [] _ :: Hp 55 (3 :: []) (0 :: []) _ :: Hp 56 [] [] _ :: ⟨some 57, (2 :: 5 :: []), (1 :: []), (1 :: []), fun _ => VP.of (y8.1), fun hd _ => ⟨some q3, .var (y8.2 : T_mcase_Codes)⟩⟩ :: Hp 58 (4 :: 6 :: []) [] _ :: ⟨some 59, (0 :: 2 :: 7 :: []), (7 :: []), (7 :: []), fun hd => VP.eq (slv (hd 8 0) [x3, y7.1, y9].length 3), fun hd _ => ⟨(hd 8 0), .row 81 ([x3, y7.1, y9] : List (Vector T_api_Value 4)) 3⟩⟩ :: ⟨some 15, (8 :: []), [], [], fun hd => VP.eq (slv (hd 8 0) [x3, y7.1, y9].length 3), fun _ _ => ⟨none, .dead⟩⟩ :: []) _ (0 :: 1 :: 2 :: 3 :: 7 :: 8 :: 9 :: 10 :: 11 :: 12 :: 13 :: 14 :: 29 :: 30 :: 31 :: 32 :: 33 :: 34 :: 35 :: 36 :: 37 :: 38 :: 39 :: 40 :: 41 :: 42 :: 43 :: 44 :: 45 :: 46 :: 47 :: 48 :: 49 :: 50 :: []) rfl rfl (by kernel_rfl) ⟨Dl0 6 ty81, Dm, ?_, D1 (r_fa fd92_0), Dld 0 le_T_api_Installed_Entry ty89, Dm, ?_, Dv fun hd E' L' hE hL => r_call en34 (C_mcase_Inside hy9) ⟨look_t (hE _ _ rfl), look_t (hE _ _ rfl), trivial⟩, ?_, ?_, trivial⟩ fun hd => ?_
  ·intro hd E' L' hE hL
   refine Sq.bring 1 (hL 1 _ rfl rfl) ?_
   refine Sq.callO (Lin := [⟨some q3, .var (y6.2 : T_mcase_Codes)⟩]) (Lr := L'.eraseIdx 1) en33 (C_mcase_Codes_Point hy7) ⟨look_t (hE _ _ rfl), trivial⟩ rfl fun q7 => ?_
   refine Sq.nil ?_
   refine To.back 1 (hL 1 _ rfl rfl) ?_
   exact To.fin (gm []) rfl rfl
  ·intro hd E' L' hE hL
   refine Sq.bring 1 (hL 1 _ rfl rfl) ?_
   refine Sq.callO (Lin := [⟨some q3, .var (y7.2 : T_mcase_Codes)⟩]) (Lr := L'.eraseIdx 1) en33 (C_mcase_Codes_Point hy8) ⟨look_t (hE _ _ rfl), trivial⟩ rfl fun q8 => ?_
   refine Sq.nil ?_
   refine To.back 1 (hL 1 _ rfl rfl) ?_
   exact To.fin (gm []) rfl rfl
  ·intro hd E' L' hE hL
   refine Sq.bslO (α := Vector T_api_Value 4) (r := [x3, y7.1, y9]) Try.underlying95 ty81 zr81 rfl rfl (.cons (by simp) (look_t (hE _ _ rfl)) (.cons (by simp) (look_t (hE _ _ rfl)) (.cons (by simp) (look_t (hE _ _ rfl)) (.nil)))) rfl fun key1 => ?_
   refine Sq.nil ?_
   refine To.place 7 (hL 7 _ rfl rfl) ?_
   exact To.fin (gm [key1]) rfl rfl
  ·intro hd E' L' hE hL
   refine Qv (r_asg (look_t (hE _ _ rfl))) ?_
   refine Sq.nil ?_
   exact To.fin (gm []) rfl rfl
  refine To.eqL (L2 := [⟨some p3, .var (z1 : T_api_Installed)⟩, ⟨some q3, .var (y8.2 : T_mcase_Codes)⟩, ⟨some q4.1, .varX (({ y5.2.2.1 with f_l := [] } : T_ordered_List) : T_ordered_List) [(10, slv q5.1 y5.2.2.1.f_l.length q5.2)]⟩, ⟨q5.1, .row 92 (y5.2.2.1.f_l : List T_api_Installed) q5.2⟩, ⟨some p2, .var (y2.1 : T_api_Schema)⟩, ⟨some q1, .var (y2.2 : T_mcase_Codes)⟩, ⟨some p1, .var (x3 : Vector T_api_Value 4)⟩, ⟨(hd 8 0), .row 81 ([x3, y7.1, y9] : List (Vector T_api_Value 4)) 3⟩]) rfl ?_
  refine Qtl [0, 1, 2, 3, 7, 8, 9, 10, 11, 12, 13, 14, 15, 29, 30, 31, 32, 33, 34, 35, 36, 37, 38, 39, 40, 41, 42, 43, 44, 45, 46, 47, 48, 49, 50, 51, 52, 53, 54, 55, 56, 57, 58, 59] ?_
  refine To.bring 7 rfl ?_
  refine To.next ?_
  refine Wp.seq ?_
  refine Qsr ?_
  refine Qm ?_
  refine Q1 (r_len Try.underlying84) ?_
  refine Qm ?_
  refine Qnx ?_
  refine Wp.block ?_
  obtain ⟨e1,hl,h⟩:=Qbs h
  refine Qlp (γ:=(Option Nat × Nat)) (δ:=(Option Nat × Nat)) hl [0, 1, 2, 3, 7, 8, 9, 10, 11, 12, 13, 14, 45, 60, 61] (fun s1 g1 => [(15, VP.eq (slv g1.1 s1.2.1.length g1.2)), (62, VP.of (s1.1))]) (fun s1 g1 => [(0, ⟨g1.1, .row 81 (s1.2.1 : List (Vector T_api_Value 4)) g1.2⟩), (2, ⟨some q3, .var (s1.2.2 : T_mcase_Codes)⟩)]) (fun q9 => Exit.exit 0) (fun q9 g1 => [(15, VP.eq (slv g1.1 q9.2.2.1.length g1.2)), (62, VP.of (q9.1)), (63, VP.of (q9.2.1))]) (fun q9 g1 => [(0, ⟨g1.1, .row 81 (q9.2.2.1 : List (Vector T_api_Value 4)) g1.2⟩), (2, ⟨some q3, .var (q9.2.2.2 : T_mcase_Codes)⟩)]) ((hd 8 0), 3) (fun s1 r h g1 => ?_) fun g1 => ?_
  ·clear hl
   refine Qsr ?_
   refine Q2 r_lss ?_
   refine Qns ?_
   refine Qcd h (fun h=>?_) fun h=>?_
   ·refine Qkn ?_
    refine Wp.seq ?_
    refine Wp.block ?_
    refine Qsr ?_
    obtain ⟨k1,hk1,h⟩:=Qbs h
    refine Qix hk1 Try.underlying84 ty92 ?_
    refine Q1 (r_loadp ty92) ?_
    refine Qal zr92 fun p4 => ?_
    refine Qs0 0 ty92 ?_
    refine Qnx ?_
    obtain ⟨y10,hy10,h⟩:=Qbs h
    obtain ⟨y11,hy11,h⟩:=Qbs h
    obtain ⟨y12,hy12,h⟩:=Qbs h
    refine Qwl [0, 1, 2, 3, 7, 8, 9, 10, 11, 12, 13, 14, 15, 17, 45, 60, 61, 62, 63, 64, 65] ?_
    refine Wp.drawD mixed (Hp 66 [] [] _ :: Hp 67 [] [] _ :: Hp 68 (1 :: []) (0 :: []) _ :: Hp 69 [] [] _ :: ⟨some 70, (3 :: []), (3 :: []), (3 :: []), fun _ => VP.of (y10.1), fun hd _ => ⟨some q3, .var (y10.2 : T_mcase_Codes)⟩⟩ :: Hp 71 (2 :: 4 :: []) [] _ :: Hp 72 (5 :: []) [] _ :: ⟨some 73, (0 :: 6 :: []), (1 :: []), (1 :: []), fun hd => VP.eq (slv (hd 7 0) y12.length ((hd 7 1).getD 0)), fun hd _ => ⟨(hd 7 0), .row 81 (y12 : List (Vector T_api_Value 4)) ((hd 7 1).getD 0)⟩⟩ :: ⟨some 15, (0 :: 1 :: 2 :: 3 :: 4 :: 5 :: 6 :: 7 :: []), [], [], fun hd => VP.eq (slv (hd 7 0) y12.length ((hd 7 1).getD 0)), fun _ _ => ⟨none, .dead⟩⟩ :: []) _ (0 :: 1 :: 2 :: 3 :: 7 :: 8 :: 9 :: 10 :: 11 :: 12 :: 13 :: 14 :: 15 :: 17 :: 45 :: 60 :: 61 :: 62 :: 63 :: 64 :: 65 :: []) rfl rfl (by kernel_rfl) ⟨Dm, D1 (r_fa fd92_0), Dld 0 le_T_api_Installed_Entry ty89, Dm, ?_, Dv fun hd E' L' hE hL => r_call en34 (C_mcase_Inside hy11) ⟨look_t (hE _ _ rfl), look_t (hE _ _ rfl), trivial⟩, Dv fun hd E' L' hE hL => r_bsl (r := [y11]) Try.underlying95 ty81 zr81 rfl rfl (.cons (by simp) (look_t (hE _ _ rfl)) (.nil)), ?_, ?_, trivial⟩ fun hd => ?_
    ·intro hd E' L' hE hL
     refine Sq.bring 3 (hL 3 _ rfl rfl) ?_
     refine Sq.callO (Lin := [⟨some q3, .var (s1.2.2 : T_mcase_Codes)⟩]) (Lr := L'.eraseIdx 3) en33 (C_mcase_Codes_Point hy10) ⟨look_t (hE _ _ rfl), trivial⟩ rfl fun q10 => ?_
     refine Sq.nil ?_
     refine To.back 3 (hL 3 _ rfl rfl) ?_
     exact To.fin (gm []) rfl rfl
    ·intro hd E' L' hE hL
     refine Sq.app (i := 1) Try.underlying95 ty81 zr81 (bytes := 64) (by kernel_rfl) (look_t (hE _ _ rfl)) (hL 1 _ rfl rfl) (look_t (hE _ _ rfl)) hy12 rfl fun key2 cap1 => ?_
     refine Sq.nil ?_
     exact To.fin (gm [key2, some cap1]) rfl rfl
    ·intro hd E' L' hE hL
     refine Qv (r_asg (look_t (hE _ _ rfl))) ?_
     refine Sq.nil ?_
     exact To.fin (gm []) rfl rfl
    refine To.eqL (L2 := [⟨some p4, .var (lget y5.1 k1 : T_api_Installed)⟩, ⟨(hd 7 0), .row 81 (y12 : List (Vector T_api_Value 4)) ((hd 7 1).getD 0)⟩, ⟨some p3, .var (z1 : T_api_Installed)⟩, ⟨some q3, .var (y10.2 : T_mcase_Codes)⟩, ⟨some q4.1, .varX (({ y5.2.2.1 with f_l := [] } : T_ordered_List) : T_ordered_List) [(10, slv q5.1 y5.2.2.1.f_l.length q5.2)]⟩, ⟨q5.1, .row 92 (y5.2.2.1.f_l : List T_api_Installed) q5.2⟩, ⟨some p2, .var (y2.1 : T_api_Schema)⟩, ⟨some q1, .var (y2.2 : T_mcase_Codes)⟩, ⟨some p1, .var (x3 : Vector T_api_Value 4)⟩]) rfl ?_
    refine Qtl [0, 1, 2, 3, 7, 8, 9, 10, 11, 12, 13, 14, 15, 17, 45, 60, 61, 62, 63, 64, 65, 67, 68, 69, 70, 71, 72, 73] ?_
    refine To.bnorm ?_
    refine To.next ?_
    refine Wp.reg ?_
    refine Q2 r_add ?_
    refine Qm ?_
    refine Sq.nil ?_
    obtain rfl:=some_in h
    exact Qrd ((hd 7 0), ((hd 7 1).getD 0)) 1
   ·refine Wp.exit ?_
    refine To.exit ?_
    obtain rfl:=some_in h
    exact Qlv (g1.1, g1.2) 0
  ·clear hl
   refine To.bexit ?_
   refine To.next ?_
   refine Qsr ?_
   refine Sq.own (α := T_api_Installed) 92 ?_
   refine Qv (r_asg look_own) ?_
   refine Qnr ?_
   refine Sq.own (α := Bool) 4 ?_
   refine Qv (r_asg look_own) ?_
   refine Qns ?_
   refine Qsr ?_
   refine Qm ?_
   refine Qv (r_lenO (i := 2) Try.underlying95 (look_t rfl) rfl rfl) ?_
   refine Qm ?_
   refine Qnx ?_
   refine Wp.block ?_
   obtain ⟨e2,hl,h⟩:=Qbs h
   refine Qlp (γ:=(Option Nat × Nat) × (Option Nat × Nat)) (δ:=(Option Nat × Nat) × (Option Nat × Nat)) hl [0, 1, 2, 3, 7, 8, 9, 10, 11, 12, 13, 14, 15, 45, 60, 61, 62, 63, 75, 76] (fun s2 g2 => [(18, VP.eq (slv g2.2.1 s2.2.2.length g2.2.2)), (19, VP.eq (slv g2.1.1 s2.2.1.length g2.1.2)), (77, VP.of (s2.1))]) (fun s2 g2 => [(0, ⟨g2.1.1, .row 4 (s2.2.1 : List Bool) g2.1.2⟩), (1, ⟨g2.2.1, .row 92 (s2.2.2 : List T_api_Installed) g2.2.2⟩)]) (fun q11 => Exit.exit 2) (fun q11 g2 => [(18, VP.eq (slv g2.2.1 q11.2.2.2.length g2.2.2)), (19, VP.eq (slv g2.1.1 q11.2.2.1.length g2.1.2)), (77, VP.of (q11.1)), (78, VP.of (q11.2.1))]) (fun q11 g2 => [(0, ⟨g2.1.1, .row 4 (q11.2.2.1 : List Bool) g2.1.2⟩), (1, ⟨g2.2.1, .row 92 (q11.2.2.2 : List T_api_Installed) g2.2.2⟩)]) ((none, 0), (none, 0)) (fun s2 r h g2 => ?_) fun g2 => ?_
   ·clear hl
    refine Qsr ?_
    refine Q2 r_lss ?_
    refine Qns ?_
    refine Qcd h (fun h=>?_) fun h=>?_
    ·refine Qkn ?_
     refine Wp.seq ?_
     refine Wp.block ?_
     refine Qsr ?_
     obtain ⟨k2,hk2,h⟩:=Qbs h
     refine Qv (r_iaO (i := 2) (k := k2) (xs := (e1.2.2.1 : List (Vector T_api_Value 4))) Try.underlying95 ty81 (look_t rfl) (look_t rfl) rfl (idx_some hk2)) ?_
     refine Qv (r_loadR (i := 2) (k := k2) (Lens.id (Vector T_api_Value 4)) (r := (lget e1.2.2.1 k2)) ty81 (look_t rfl) rfl (idx_some hk2).1 rfl rfl) ?_
     refine Qal zr81 fun p5 => ?_
     refine Qs0 0 ty81 ?_
     refine Qnr ?_
     refine Qm ?_
     refine Ql0 0 ty81 ?_
     obtain ⟨y13,hy13,h⟩:=Qbs h
     refine Sq.vS (HS.call [6, 7] en35 (Ch0_1_ordered_List_Lookup hy13) ⟨look_t rfl, look_t rfl, trivial⟩ rfl ⟨rfl, rfl, trivial⟩ rfl) rfl rfl rfl ?_
     refine Qm ?_
     refine Qxt ?_
     refine Qxt ?_
     refine Qal zr92 fun p6 => ?_
     refine Qs0 0 ty92 ?_
     refine Qa ?_
     refine Qnx ?_
     refine Wp.reg ?_
     refine Qm ?_
     refine Ql0 0 ty92 ?_
     refine Qbl [y13.1] Try.underlying84 ty92 zr92 ?_
     obtain ⟨y14,hy14,h⟩:=Qbs h
     refine Qap 3 Try.underlying84 ty92 zr92 hy14 fun key3 cap2 => ?_
     refine Qm ?_
     refine Qm ?_
     refine Qbl [y13.2] Try.underlying96 ty4 zr4 ?_
     obtain ⟨y15,hy15,h⟩:=Qbs h
     refine Qap 2 Try.underlying96 ty4 zr4 hy15 fun key4 cap3 => ?_
     refine Qa ?_
     refine Qa ?_
     refine Sq.nil ?_
     refine To.bnorm ?_
     refine To.next ?_
     refine Wp.reg ?_
     refine Q2 r_add ?_
     refine Qm ?_
     refine Sq.nil ?_
     obtain rfl:=some_in h
     exact Qrd ((key4, cap3), (key3, cap2)) 2
    ·refine Wp.exit ?_
     refine To.exit ?_
     obtain rfl:=some_in h
     exact Qlv ((g2.1.1, g2.1.2), (g2.2.1, g2.2.2)) 0
   ·clear hl
    refine To.bexit ?_
    refine To.next ?_
    refine Wp.seq ?_
    refine Qsr ?_
    refine Qm ?_
    refine Ql0 3 ty92 ?_
    refine Sq.bring 6 rfl ?_
    refine Sq.bring 6 rfl ?_
    obtain ⟨y16,hy16,h⟩:=Qbs h
    refine QcO 2 en36 (Ch0_1_ordered_List_Put hy16) fun q12 => ?_
    refine Q1 r_not ?_
    refine Qnx ?_
    refine Qcd h (fun h=>?_) fun h=>?_
    ·refine Qsr ?_
     refine Qa ?_
     refine Qnx ?_
     refine Wp.ret ?_
     refine To.ret ?_
     obtain rfl:=some_in h
     exact Qe1
    ·refine Qkn ?_
     refine Wp.seq ?_
     refine Qsr ?_
     refine Qm ?_
     refine Qv (r_lenO (i := 4) Try.underlying95 (look_t rfl) rfl rfl) ?_
     refine Qm ?_
     refine Qnx ?_
     refine Wp.block ?_
     obtain ⟨e3,hl,h⟩:=Qbs h
     refine Qlp (γ:=Unit) (δ:=Unit) hl [0, 1, 2, 3, 7, 8, 9, 10, 11, 12, 13, 14, 15, 18, 19, 45, 60, 61, 62, 63, 75, 76, 77, 78, 99, 100, 101] (fun s3 g3 => [(102, VP.of (s3))]) (fun s3 g3 => []) (fun q13 => Sum.elim (fun q13 => Exit.exit 4) (fun q13 => Exit.ret) q13) (fun q13 g3 => Sum.elim (fun q13 => [(102, VP.of (q13.1)), (103, VP.of (q13.2))]) (fun q13 => [(24, VP.of (q13.1)), (27, VP.of (q13.2.1)), (28, VP.of (q13.2.2.1)), (102, VP.of (q13.2.2.2.1)), (103, VP.of (q13.2.2.2.2.1)), (148, VP.of (q13.2.2.2.2.2))]) q13) (fun q13 g3 => Sum.elim (fun q13 => []) (fun q13 => []) q13) () (fun s3 r h g3 => ?_) fun g3 => ?_
     ·clear hl
      refine Qsr ?_
      refine Q2 r_lss ?_
      refine Qns ?_
      refine Qcd h (fun h=>?_) fun h=>?_
      ·refine Qkn ?_
       refine Wp.seq ?_
       refine Wp.block ?_
       refine Qsr ?_
       refine Qm ?_
       obtain ⟨k3,hk3,h⟩:=Qbs h
       refine Qv (r_iaO (i := 4) (k := k3) (xs := (e1.2.2.1 : List (Vector T_api_Value 4))) Try.underlying95 ty81 (look_t rfl) (look_t rfl) rfl (idx_some hk3)) ?_
       refine Qv (r_loadR (i := 4) (k := k3) (Lens.id (Vector T_api_Value 4)) (r := (lget e1.2.2.1 k3)) ty81 (look_t rfl) rfl (idx_some hk3).1 rfl rfl) ?_
       refine Qal zr81 fun p7 => ?_
       refine Qa ?_
       refine Qs0 0 ty81 ?_
       refine Qnr ?_
       refine Qm ?_
       refine Ql0 0 ty81 ?_
       obtain ⟨y17,hy17,h⟩:=Qbs h
       refine Sq.vS (HS.call [1, 2] en35 (Ch0_1_ordered_List_Lookup hy17) ⟨look_t rfl, look_t rfl, trivial⟩ rfl ⟨rfl, rfl, trivial⟩ rfl) rfl rfl rfl ?_
       refine Qm ?_
       refine Qxt ?_
       refine Qxt ?_
       refine Qal zr92 fun p8 => ?_
       refine Qs0 0 ty92 ?_
       refine Qa ?_
       refine Qnr ?_
       refine Qm ?_
       refine Qm ?_
       refine Qg1 (r_fa fd92_1) ?_
       refine Qg (fun hb => r_load (i := 0) ((Lens.id T_api_Installed).comp le_T_api_Installed_Number) (r := y17.1.f_Number) ty3 (look_tc rfl hb) rfl rfl rfl) ?_
       refine Qg2 r_eql ?_
       refine Qan ?_
       refine Qa ?_
       refine Qns ?_
       obtain ⟨y18,hy18,h⟩:=Qbs h
       obtain ⟨k4,hk4,h⟩:=Qbs h
       obtain ⟨k5,hk5,h⟩:=Qbs h
       obtain ⟨y19,hy19,h⟩:=Qbs h
       obtain ⟨z2,hz2,h⟩:=Qbs h
       refine Wp.draw mixed 30 ((some 119) :: (some 120) :: (some 121) :: (some 122) :: (some 123) :: (some 124) :: (some 125) :: (some 126) :: (some 127) :: (some 128) :: (some 129) :: (some 130) :: (some 131) :: (some 132) :: (some 133) :: (some 134) :: (some 135) :: (some 136) :: (some 137) :: (some 138) :: (some 139) :: (some 140) :: (some 141) :: (some 142) :: (some 143) :: (some 144) :: (some 145) :: (some 146) :: (some 147) :: (some 148) :: []) ([] :: [0] :: [1] :: [1] :: [1, 3] :: [1] :: [1, 2, 4, 5] :: [1, 6] :: [1, 7] :: [8] :: [9] :: [9, 10] :: [9, 11] :: [12] :: [12] :: [12] :: [12, 14, 15] :: [12, 16] :: [12, 13, 17] :: [12, 18] :: [19] :: [19] :: [19, 20, 21] :: [19, 22] :: [19] :: [19, 23, 24] :: [19, 25] :: [12, 19, 26] :: [9, 12, 27] :: [9, 28] :: []) (.val _ :: .val _ :: .val _ :: .val _ :: .val _ :: .val _ :: .val _ :: .val _ :: .val _ :: .val _ :: .val _ :: .val _ :: .val _ :: .val _ :: .val _ :: .val _ :: .val _ :: .val _ :: .val _ :: .val _ :: .val _ :: .val _ :: .val _ :: .val _ :: .val _ :: .val _ :: .val _ :: .val _ :: .val _ :: .val _ :: []) (false :: false :: false :: false :: false :: false :: false :: false :: false :: false :: false :: false :: false :: false :: false :: false :: false :: false :: false :: false :: false :: false :: false :: false :: false :: false :: false :: false :: false :: false :: []) (by kernel_rfl) rfl rfl rfl (fun ps1 => ⟨Hm, Hm, Hg fun L' hL => fun hb => r_load (i := 9) (Lens.id T_api_Schema) (r := y2.1) ty33 (look_t rfl) (hL _ _ rfl rfl) rfl rfl, Hg fun L' hL => fun hb => r_fa fd92_0 (look_t rfl), Hg fun L' hL => fun hb => r_load (i := 7) ((Lens.id T_api_Installed).comp le_T_api_Installed_Entry) (r := z1.f_Entry) ty89 (look_tc rfl hb) (hL _ _ rfl rfl) rfl rfl, Hg fun L' hL => fun hb => r_load (i := 1) (Lens.id (Vector T_api_Value 4)) (r := (lget e1.2.2.1 k3)) ty81 (look_t rfl) (hL _ _ rfl rfl) rfl rfl, Hg fun L' hL => fun hb => r_call en37 (C_ref10_Matches (condM_some hy18 hb)) ⟨look_tc rfl hb, look_tc rfl hb, look_tc rfl hb, trivial⟩, Hg fun L' hL => fun hb => r_not (look_tc rfl hb), Hv fun L' hL => r_and (look_t rfl) (look_t rfl) (fun h => h), Hm, Hg fun L' hL => fun hb => r_move (look_t rfl), Hg fun L' hL => fun hb => r_not (look_tc rfl hb), Hg fun L' hL => fun hb => r_move (look_tc rfl hb), fun L' hL => HO.gg (fun hb => r_move (look_t rfl)) rfl rfl rfl, fun L' hL => HO.gg (fun hb => r_move (look_t rfl)) rfl rfl rfl, fun L' hL => HO.gg (fun hb => r_move (look_t rfl)) rfl rfl rfl, fun L' hL => HO.gg (fun hb => r_iaO (i := 4) (k := k4) (xs := (e2.2.2.1 : List Bool)) Try.underlying96 ty4 (look_tc rfl hb) (look_tc rfl hb) (hL _ _ rfl rfl) (idx_some (condM_some hk4 (decide_eq_true hb)))) rfl rfl rfl, fun L' hL => HO.gg (fun hb => r_loadR (i := 4) (k := k4) (Lens.id Bool) (r := (lget e2.2.2.1 k4)) ty4 (look_tc rfl hb) (hL _ _ rfl rfl) (idx_some (condM_some hk4 (decide_eq_true hb))).1 rfl rfl) rfl rfl rfl, fun L' hL => HO.gg (fun hb => r_bne Try.underlying4 (look_tc rfl hb) (look_tc rfl hb)) rfl rfl rfl, fun L' hL => HO.gg (fun hb => r_move (look_tc rfl hb)) rfl rfl rfl, fun L' hL => HO.gg (fun hb => r_move (look_t rfl)) rfl rfl rfl, fun L' hL => HO.gg (fun hb => r_move (look_t rfl)) rfl rfl rfl, fun L' hL => HO.gg (fun hb => r_iaO (i := 5) (k := k5) (xs := (e2.2.2.2 : List T_api_Installed)) Try.underlying84 ty92 (look_tc rfl hb) (look_tc rfl hb) (hL _ _ rfl rfl) (idx_some (condM_some hk5 (decide_eq_true hb)))) rfl rfl rfl, fun L' hL => HO.gg (fun hb => r_loadR (i := 5) (k := k5) (Lens.id T_api_Installed) (r := (lget e2.2.2.2 k5)) ty92 (look_tc rfl hb) (hL _ _ rfl rfl) (idx_some (condM_some hk5 (decide_eq_true hb))).1 rfl rfl) rfl rfl rfl, fun L' hL => HO.gg (fun hb => r_load (i := 0) (Lens.id T_api_Installed) (r := y17.1) ty92 (look_t rfl) (hL _ _ rfl rfl) rfl rfl) rfl rfl rfl, fun L' hL => HO.gg (fun hb => r_call en38 (C_ref13_Same (condM_some hy19 (decide_eq_true hb))) ⟨look_tc rfl hb, look_tc rfl hb, trivial⟩) rfl rfl rfl, fun L' hL => HO.gg (fun hb => r_not (look_tc rfl hb)) rfl rfl rfl, fun L' hL => HO.gg (fun hb => r_or (look_tc rfl hb) (look_t rfl) (fun h => ⟨hb, h⟩)) rfl rfl rfl, Hg fun L' hL => fun hb => r_and (look_tc rfl hb) (look_t rfl) (fun h => ⟨hb, h⟩), Hn hz2 fun L' hL => r_or (look_t rfl) (look_t rfl) (fun h => h), trivial⟩) fun ps1 => ?_
       refine Qnx ?_
       refine Qcd h (fun h=>?_) fun h=>?_
       ·refine Qsr ?_
        refine Qa ?_
        refine Qnx ?_
        refine Wp.ret ?_
        refine To.bret ?_
        refine To.ret ?_
        obtain rfl:=some_in h
        exact Qlv () 2
       ·refine Wp.skip ?_
        refine To.bnorm ?_
        refine To.next ?_
        refine Wp.reg ?_
        refine Q2 r_add ?_
        refine Qm ?_
        refine Sq.nil ?_
        obtain rfl:=some_in h
        exact Qrd () 2
      ·refine Wp.exit ?_
       refine To.exit ?_
       obtain rfl:=some_in h
       exact Qlv () 0
     ·clear hl
      rcases e3 with e3 | e3
      ·simp only [Sum.elim_inl] at h
       refine To.bexit ?_
       refine To.next ?_
       refine Qsr ?_
       obtain ⟨y20,hy20,h⟩:=Qbs h
       refine Qcl en39 (C_law13_begun hy20) ?_
       refine Qa ?_
       refine Qnx ?_
       refine Wp.ret ?_
       obtain rfl:=some_in h
       exact Qe1
      ·simp only [Sum.elim_inr] at h
       refine To.bret ?_
       refine To.ret ?_
       obtain rfl:=some_in h
       exact Qe1
end Go.Proofs.Ytodajdohokmjnaa

