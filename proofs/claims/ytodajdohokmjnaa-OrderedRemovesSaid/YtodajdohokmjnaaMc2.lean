/-
  Each function meets its functional program. Conditions: none.
-/
import Derived.Test.YtodajdohokmjnaaMc0
import Derived.Test.YtodajdohokmjnaaMc1
namespace Go.Proofs.Ytodajdohokmjnaa
open Go Gv
set_option linter.unusedVariables false
set_option linter.unusedSimpArgs false
set_option maxRecDepth 100000
set_option maxHeartbeats 2000000
theorem C_own_Installed {x0 : T_api_Installed}  {r : T_api_Installed} (h : L_own_Installed x0 = some r) : Meets Try.prog 81 [VP.of (x0)] (VP.of (r)) := by
 unfold L_own_Installed at h
 refine Meets.of Try.func81 rfl Try.ntmps81 rfl fun W A => ?_
 refine Qsr ?_
 refine Qbx fun p1 => ?_
 refine Qal zr92 fun p2 => ?_
 refine Qnr ?_
 refine Q1 (r_fa fd92_0) ?_
 refine Qld 1 le_T_api_Installed_Entry ty89 ?_
 obtain ⟨y1,hy1,h⟩:=Qbs h
 refine Qcl en116 (C_own_Entry hy1) ?_
 refine Q1 (r_fa fd92_0) ?_
 refine Qst 1 le_T_api_Installed_Entry ty89 ?_
 refine Qnr ?_
 refine Ql0 1 ty92 ?_
 refine Qs0 0 ty92 ?_
 refine Qnx ?_
 refine Wp.ret ?_
 obtain rfl:=some_in h
 exact To.end1 rfl (Qrc 0 ty92)
theorem C_mcase_Codes_Point {x0 : T_mcase_Codes} {pp0 : Nat} {r : (Vector T_api_Value 4) × T_mcase_Codes} (h : L_mcase_Codes_Point x0 = some r) : MeetsO Try.prog 33 [VP.eq (.pointer (some ⟨pp0, 0, none⟩))] [⟨some pp0, .var (x0 : T_mcase_Codes)⟩] (δ := Unit) (fun d => VP.of (r.1)) (fun d => [⟨some pp0, .var (r.2 : T_mcase_Codes)⟩]) := by
 unfold L_mcase_Codes_Point at h
 refine MeetsO.of Try.func33 rfl Try.ntmps33 rfl fun W A => ?_
 refine Qsr ?_
 refine Qal zr81 fun p1 => ?_
 refine Qnr ?_
 refine Qal zr81 fun p2 => ?_
 refine Qns ?_
 refine Qsr ?_
 refine Qm ?_
 refine Qnx ?_
 refine Wp.block ?_
 obtain ⟨e1,hl,h⟩:=Qbs h
 refine Qlp (γ:=Unit) (δ:=Unit) hl [0, 2, 3] (fun s1 g1 => [(5, VP.of (s1.1))]) (fun s1 g1 => [(0, ⟨some p2, .var (s1.2.1 : Vector T_api_Value 4)⟩), (2, ⟨some pp0, .var (s1.2.2 : T_mcase_Codes)⟩)]) (fun q1 => Exit.exit 0) (fun q1 g1 => [(5, VP.of (q1.1)), (6, VP.of (q1.2.1))]) (fun q1 g1 => [(0, ⟨some p2, .var (q1.2.2.1 : Vector T_api_Value 4)⟩), (2, ⟨some pp0, .var (q1.2.2.2 : T_mcase_Codes)⟩)]) () (fun s1 r h g1 => ?_) fun g1 => ?_
 ·clear hl
  refine Qsr ?_
  refine Q2 r_lss ?_
  refine Qns ?_
  refine Qcd h (fun h=>?_) fun h=>?_
  ·refine Qkn ?_
   refine Wp.seq ?_
   refine Wp.block ?_
   refine Qsr ?_
   refine Qm ?_
   refine Qa ?_
   refine Qnr ?_
   refine Qm ?_
   refine Qm ?_
   refine Sq.bring 2 rfl ?_
   obtain ⟨y1,hy1,h⟩:=Qbs h
   refine QcO 1 en49 (C_mcase_Codes_Next hy1) fun q2 => ?_
   refine Q1 (r_ci64 Try.underlying3 Try.underlying45) ?_
   obtain ⟨z1,hz1,h⟩:=Qbs h
   refine Qn hz1 (r_build (b := ({ (default : T_api_Value) with f_Lo := BitVec.ofInt 64 y1.1 } : T_api_Value)) rfl bu47 zr47 (.cons le_T_api_Value_Lo rfl (look_t rfl) rfl (.nil))) ?_
   obtain ⟨k1,hk1,h⟩:=Qbs h
   refine Qv (r_ia (k := k1) ar81 (look_t rfl) (look_t rfl) (idx_some hk1)) ?_
   refine Qst 1 ((Lens.id (Vector T_api_Value 4)).comp (Lens.idx (α := T_api_Value) 4 k1 (idx_some hk1).1)) ty47 ?_
   refine Qnr ?_
   refine Qm ?_
   refine Sq.bring 0 rfl ?_
   obtain ⟨y2,hy2,h⟩:=Qbs h
   refine QcO 1 en49 (C_mcase_Codes_Next hy2) fun q3 => ?_
   refine Q2 r_eql ?_
   refine Qnx ?_
   obtain ⟨m1,hm1,h⟩:=Qbs h
   refine Qcm (γ:=Unit) [0, 2, 3, 4, 5, 6, 16] (fun g2 => []) (fun g2 => [(0, ⟨some pp0, .var (m1.1 : T_mcase_Codes)⟩), (1, ⟨some p2, .var (m1.2 : Vector T_api_Value 4)⟩)]) (fun g2 => ?_) (fun hm hc => ?_) fun hm hc => ?_
   ·clear hm1
    refine To.bnorm ?_
    refine To.next ?_
    refine Wp.reg ?_
    refine Q2 r_add ?_
    refine Qm ?_
    refine Sq.nil ?_
    refine To.bring 2 rfl ?_
    refine To.bring 2 rfl ?_
    obtain rfl:=some_in h
    exact Qrd () 0
   ·have h := cond_t hc hm1
    obtain ⟨k2,hk2,h⟩:=Qbs h
    obtain ⟨y3,hy3,h⟩:=Qbs h
    obtain ⟨z2,hz2,h⟩:=Qbs h
    obtain ⟨k3,hk3,h⟩:=Qbs h
    obtain ⟨z3,hz3,h⟩:=Qbs h
    refine Qwl [0, 2, 3, 4, 5, 6, 7, 8, 9, 10, 11, 12, 13, 14, 15, 16] ?_
    refine Wp.drawD mixed (Hp 17 [] [] _ :: Hp 18 [] [] _ :: Hp 19 (1 :: []) [] _ :: Hp 20 (2 :: []) [] _ :: Hp 21 (3 :: []) (1 :: []) _ :: Hp 22 (4 :: []) [] _ :: Hp 23 [] [] _ :: ⟨some 24, (6 :: []), (0 :: []), (0 :: []), fun _ => VP.of (y3.1), fun hd _ => ⟨some pp0, .var (y3.2 : T_mcase_Codes)⟩⟩ :: Hp 25 (7 :: []) [] _ :: Hp 26 (5 :: 8 :: []) [] _ :: Hp 27 (0 :: []) [] _ :: Hp 28 (10 :: []) [] _ :: ⟨none, (4 :: 9 :: 11 :: []), (1 :: []), (1 :: []), fun _ => VP.any, fun hd _ => ⟨some p2, .var (z3 : Vector T_api_Value 4)⟩⟩ :: []) _ (0 :: 2 :: 3 :: 4 :: 5 :: 6 :: 7 :: 8 :: 9 :: 10 :: 11 :: 12 :: 13 :: 14 :: 15 :: 16 :: []) rfl rfl (by kernel_rfl) ⟨Dm, Dm, Dv fun hd E' L' hE hL => r_ia (k := k2) ar81 (look_t (hE _ _ rfl)) (look_t (hE _ _ rfl)) (idx_some hk2), D1 (r_fa fd47_1), Dld 1 (((Lens.id (Vector T_api_Value 4)).comp (Lens.idx (α := T_api_Value) 4 k2 (idx_some hk2).1)).comp le_T_api_Value_Lo) ty45, Dv fun hd E' L' hE hL => r_shl64 (look_t (hE _ _ rfl)) (look_u64 24 rfl), Dm, ?_, D1 (r_ci64 Try.underlying3 Try.underlying45), Dv fun hd E' L' hE hL => (r_or64 (look_t (hE _ _ rfl)) (look_t (hE _ _ rfl))).as (some_in hz2), Dv fun hd E' L' hE hL => r_ia (k := k3) ar81 (look_t (hE _ _ rfl)) (look_t (hE _ _ rfl)) (idx_some hk3), D1 (r_fa fd47_1), ?_, trivial⟩ fun hd => ?_
    ·intro hd E' L' hE hL
     refine Sq.bring 0 (hL 0 _ rfl rfl) ?_
     refine Sq.callO (Lin := [⟨some pp0, .var (y2.2 : T_mcase_Codes)⟩]) (Lr := L'.eraseIdx 0) en49 (C_mcase_Codes_Next hy3) ⟨look_t (hE _ _ rfl), look_int 256, trivial⟩ rfl fun q4 => ?_
     refine Sq.nil ?_
     refine To.back 0 (hL 0 _ rfl rfl) ?_
     exact To.fin (gm []) rfl rfl
    ·intro hd E' L' hE hL
     refine Sq.store (i := 1) (((Lens.id (Vector T_api_Value 4)).comp (Lens.idx (α := T_api_Value) 4 k3 (idx_some hk3).1)).comp le_T_api_Value_Lo) (v := (z2 : BitVec 64)) (b' := (z3 : Vector T_api_Value 4)) ty45 (look_t (hE _ _ rfl)) (look_t (hE _ _ rfl)) (hL 1 _ rfl rfl) rfl (some_in hz3) ?_
     refine Sq.nil ?_
     exact To.fin (gm []) rfl rfl
    refine To.eqL (L2 := [⟨some pp0, .var (y3.2 : T_mcase_Codes)⟩, ⟨some p2, .var (z3 : Vector T_api_Value 4)⟩, ⟨some p1, .var ((default : Vector T_api_Value 4) : Vector T_api_Value 4)⟩]) rfl ?_
    refine Qtl [0, 2, 3, 4, 5, 6, 7, 8, 9, 10, 11, 12, 13, 14, 15, 16, 17, 18, 19, 20, 21, 22, 23, 24, 25, 26, 27, 28] ?_
    obtain rfl:=some_in h
    exact Qmt 0 (hm ())
   ·have h := cond_f hc hm1
    refine Wp.skip ?_
    obtain rfl:=some_in h
    exact Qmt 0 (hm ())
  ·refine Wp.exit ?_
   refine To.exit ?_
   obtain rfl:=some_in h
   exact Qlv () 0
 ·clear hl
  refine To.bexit ?_
  refine To.next ?_
  refine Qsr ?_
  refine Ql0 0 ty81 ?_
  refine Qs0 1 ty81 ?_
  refine Qnx ?_
  refine Wp.ret ?_
  refine To.bring 2 rfl ?_
  obtain rfl:=some_in h
  exact To.endO1 () (.cons_cons _ (List.nil_sublist _)) rfl rfl (rvo_c (i := 2) ty81 rfl rfl)
theorem C_entry_bitsOf {x0 : T_api_Schema} {x1 : T_api_Key}  {r : Int} (h : L_entry_bitsOf x0 x1 = some r) : Meets Try.prog 141 [VP.of (x0), VP.of (x1)] (VP.of (r)) := by
 unfold L_entry_bitsOf at h
 refine Meets.of Try.func141 rfl Try.ntmps141 rfl fun W A => ?_
 refine Qsr ?_
 refine Qbx fun p1 => ?_
 refine Qbx fun p2 => ?_
 refine Qa ?_
 refine Qnr ?_
 refine Ql0 1 ty33 ?_
 refine Q1 (r_fa fd163_1) ?_
 refine Qld 0 le_T_api_Key_Field ty3 ?_
 obtain ⟨y1,hy1,h⟩:=Qbs h
 refine Qcl en156 (C_check_FieldOf hy1) ?_
 refine Qa ?_
 refine Qns ?_
 refine Qsr ?_
 refine Qm ?_
 refine Q2 r_lss ?_
 refine Qnx ?_
 refine Qcd h (fun h=>?_) fun h=>?_
 ·refine Qsr ?_
  refine Qa ?_
  refine Qnx ?_
  refine Wp.ret ?_
  refine To.ret ?_
  obtain rfl:=some_in h
  exact Qe1
 ·refine Qkn ?_
  refine Qsr ?_
  refine Q1 (r_fa fd33_0) ?_
  refine Qld 1 le_T_api_Schema_Fields ty24 ?_
  refine Qm ?_
  obtain ⟨k1,hk1,h⟩:=Qbs h
  refine Qix hk1 Try.underlying24 ty123 ?_
  refine Qfp le_T_api_Field_Bits fd123_2 ?_
  refine Q1 (r_loadp ty3) ?_
  refine Qa ?_
  refine Qnx ?_
  refine Wp.ret ?_
  obtain rfl:=some_in h
  exact Qe1
theorem C_value_Leading {x0 : Int} {x1 : Int}  {r : T_api_Value} (h : L_value_Leading x0 x1 = some r) : Meets Try.prog 177 [VP.of (x0), VP.of (x1)] (VP.of (r)) := by
 unfold L_value_Leading at h
 refine Meets.of Try.func177 rfl Try.ntmps177 rfl fun W A => ?_
 refine Qsr ?_
 refine Qal zr47 fun p1 => ?_
 refine Qnr ?_
 refine Qm ?_
 obtain ⟨y1,hy1,h⟩:=Qbs h
 refine Qcl en193 (C_value_within hy1) ?_
 refine Qa ?_
 refine Qnr ?_
 refine Qm ?_
 refine Q2 r_max ?_
 refine Qm ?_
 refine Q2 r_min ?_
 refine Qa ?_
 refine Qnr ?_
 refine Qm ?_
 obtain ⟨y2,hy2,h⟩:=Qbs h
 refine Qcl en184 (C_value_Ones hy2) ?_
 refine Qm ?_
 refine Qm ?_
 refine Q2 r_sub ?_
 obtain ⟨y3,hy3,h⟩:=Qbs h
 refine Qcl en184 (C_value_Ones hy3) ?_
 obtain ⟨y4,hy4,h⟩:=Qbs h
 refine Qcl en187 (C_value_Xor hy4) ?_
 refine Qs0 0 ty47 ?_
 refine Qnx ?_
 refine Wp.ret ?_
 obtain rfl:=some_in h
 exact To.end1 rfl (Qrc 0 ty47)
theorem C_ref04_Bits {x0 : T_api_Schema} {x1 : Int}  {r : Int} (h : L_ref04_Bits x0 x1 = some r) : Meets Try.prog 123 [VP.of (x0), VP.of (x1)] (VP.of (r)) := by
 unfold L_ref04_Bits at h
 refine Meets.of Try.func123 rfl Try.ntmps123 rfl fun W A => ?_
 refine Qsr ?_
 refine Qbx fun p1 => ?_
 refine Qa ?_
 refine Qns ?_
 obtain ⟨y1,hy1,h⟩:=Qbs h
 obtain ⟨k1,hk1,h⟩:=Qbs h
 refine Wp.draw mixed 8 [some 5, some 6, some 7, some 8, some 9, some 10, some 11, some 12] [[], [0], [], [], [2, 3], [1, 4], [5], [6]] [.val _, .val _, .val _, .val _, .val _, .val _, .val _, .val _] [false, false, false, false, false, false, false, false] (by kernel_rfl) rfl rfl rfl (fun ps1 => ⟨H1 (r_fa fd33_0), Hld 0 le_T_api_Schema_Fields ty24, Hl0 0 ty33, Hm, Hcl en149 (C_ref04_FieldOf hy1), Hix hk1 Try.underlying24 ty123, Hfp le_T_api_Field_Bits fd123_2, H1 (r_loadp ty3), trivial⟩) fun ps1 => ?_
 refine Qa ?_
 refine Qnx ?_
 refine Wp.ret ?_
 obtain rfl:=some_in h
 exact Qe1
theorem C_ref10_Covers {x0 : T_api_Match} {x1 : Int} {x2 : Int} {x3 : T_api_Value}  {r : Bool} (h : L_ref10_Covers x0 x1 x2 x3 = some r) : Meets Try.prog 87 [VP.of (x0), VP.of (x1), VP.of (x2), VP.of (x3)] (VP.of (r)) := by
 unfold L_ref10_Covers at h
 refine Meets.of Try.func87 rfl Try.ntmps87 rfl fun W A => ?_
 refine Qsr ?_
 refine Qbx fun p1 => ?_
 refine Qbx fun p2 => ?_
 refine Qa ?_
 refine Qns ?_
 refine Qsr ?_
 refine Q1 (r_fa fd104_0) ?_
 refine Qld 1 le_T_api_Match_Present ty4 ?_
 refine Q1 r_not ?_
 refine Qnx ?_
 refine Qcd h (fun h=>?_) fun h=>?_
 ·refine Qsr ?_
  refine Qm ?_
  refine Q2 r_geq ?_
  refine Qm ?_
  refine Qg1 r_move ?_
  refine Qg2 r_leq ?_
  refine Qan ?_
  refine Qa ?_
  refine Qnx ?_
  refine Wp.ret ?_
  refine To.ret ?_
  obtain rfl:=some_in h
  exact Qe1
 ·refine Qkn ?_
  refine Wp.seq ?_
  refine Qsr ?_
  refine Qm ?_
  refine Qnx ?_
  refine Wp.block ?_
  refine Qsr ?_
  refine Q2 r_eql ?_
  refine Qa ?_
  refine Qnx ?_
  refine Qcd h (fun h=>?_) fun h=>?_
  ·refine Qsr ?_
   refine Ql0 0 ty47 ?_
   refine Q1 (r_fa fd104_1) ?_
   refine Qld 1 le_T_api_Match_Value ty47 ?_
   refine Q2 (r_eqA eqv47 rfl eqg47 rfl) ?_
   refine Qa ?_
   refine Qnx ?_
   refine Wp.ret ?_
   refine To.bret ?_
   refine To.ret ?_
   obtain rfl:=some_in h
   exact Qe1
  ·refine Qsr ?_
   refine Q2 r_eql ?_
   refine Qa ?_
   refine Qnx ?_
   refine Qcd h (fun h=>?_) fun h=>?_
   ·refine Wp.seq ?_
    obtain ⟨y1,hy1,h⟩:=Qbs h
    obtain ⟨y2,hy2,h⟩:=Qbs h
    refine Wp.draw mixed 7 [some 30, some 31, some 32, some 33, some 34, some 9, some 10] [[], [0], [], [2], [3], [], []] [.val _, .val _, .val _, .val _, .val _, .new (.var (default : Vector Bool 128)), .new (.var (default : Vector Bool 128))] [false, false, false, false, false, false, false] (by kernel_rfl) rfl rfl rfl (fun ps1 => ⟨Hl0 0 ty47, Hcl en111 (C_ref01_Read hy1), H1 (r_fa fd104_1), Hld 1 le_T_api_Match_Value ty47, Hcl en111 (C_ref01_Read hy2), ao_alloc zr222, ao_alloc zr222, trivial⟩) fun ps1 => ?_
    refine Qs0 0 ty222 ?_
    refine Qs0 1 ty222 ?_
    refine Qns ?_
    refine Qsr ?_
    refine Qm ?_
    refine Q1 (r_fa fd104_3) ?_
    refine Qld 3 le_T_api_Match_Prefix ty3 ?_
    refine Q2 r_sub ?_
    refine Qa ?_
    refine Qnx ?_
    refine Wp.block ?_
    obtain ⟨e1,hl,h⟩:=Qbs h
    refine Qlp (γ:=Unit) (δ:=Unit) hl [0, 1, 2, 3, 4, 7, 8, 9, 10, 14, 21, 22, 28] (fun s1 g1 => [(11, VP.of (s1))]) (fun s1 g1 => []) (fun q1 => Sum.elim (fun q1 => Exit.exit 1) (fun q1 => Exit.ret) q1) (fun q1 g1 => Sum.elim (fun q1 => [(11, VP.of (q1.1)), (41, VP.of (q1.2))]) (fun q1 => [(11, VP.of (q1.1)), (41, VP.of (q1.2.1)), (58, VP.of (q1.2.2))]) q1) (fun q1 g1 => Sum.elim (fun q1 => []) (fun q1 => []) q1) () (fun s1 r h g1 => ?_) fun g1 => ?_
    ·clear hl
     refine Wp.seq ?_
     refine Qsr ?_
     refine Qm ?_
     refine Qm ?_
     refine Q2 r_lss ?_
     refine Qnx ?_
     refine Qcd h (fun h=>?_) fun h=>?_
     ·refine Qkn ?_
      refine Wp.seq ?_
      refine Wp.block ?_
      refine Wp.seq ?_
      obtain ⟨k1,hk1,h⟩:=Qbs h
      obtain ⟨k2,hk2,h⟩:=Qbs h
      obtain ⟨z1,hz1,h⟩:=Qbs h
      refine Wp.draw mixed 15 [some 44, some 45, some 46, some 47, some 48, some 49, some 50, some 51, some 52, some 53, some 54, some 55, some 56, some 57, some 58] [[], [0], [1], [2], [2, 3], [2, 4], [5], [6], [6, 7], [6, 8], [6], [6, 10], [6, 11], [6, 9, 12], [6, 13]] [.val _, .val _, .val _, .val _, .val _, .val _, .val _, .val _, .val _, .val _, .val _, .val _, .val _, .val _, .val _] [false, false, false, false, false, false, false, false, false, false, false, false, false, false, false] (by kernel_rfl) rfl rfl rfl (fun ps2 => ⟨Hm, H2 r_geq, Hm, Hg fun L' hL => fun hb => r_move (look_t rfl), Hg fun L' hL => fun hb => r_lss (look_tc rfl hb) (look_int 128), Hv fun L' hL => r_and (look_t rfl) (look_t rfl) (fun h => h), Hm, Hg fun L' hL => fun hb => r_move (look_t rfl), Hg fun L' hL => fun hb => r_ia (k := k1) ar222 (look_t rfl) (look_tc rfl hb) (idx_some (condM_some hk1 hb)), Hg fun L' hL => fun hb => r_load (i := 0) ((Lens.id (Vector Bool 128)).comp (Lens.idx (α := Bool) 128 k1 (idx_some (condM_some hk1 hb)).1)) (r := vget y1 k1) ty4 (look_tc rfl hb) (hL _ _ rfl rfl) rfl rfl, Hg fun L' hL => fun hb => r_move (look_t rfl), Hg fun L' hL => fun hb => r_ia (k := k2) ar222 (look_t rfl) (look_tc rfl hb) (idx_some (condM_some hk2 hb)), Hg fun L' hL => fun hb => r_load (i := 1) ((Lens.id (Vector Bool 128)).comp (Lens.idx (α := Bool) 128 k2 (idx_some (condM_some hk2 hb)).1)) (r := vget y2 k2) ty4 (look_tc rfl hb) (hL _ _ rfl rfl) rfl rfl, Hg fun L' hL => fun hb => r_bne Try.underlying4 (look_tc rfl hb) (look_tc rfl hb), Hn hz1 fun L' hL => r_and (look_t rfl) (look_t rfl) (fun h => h), trivial⟩) fun ps2 => ?_
      refine Qnx ?_
      refine Qcd h (fun h=>?_) fun h=>?_
      ·refine Qsr ?_
       refine Qa ?_
       refine Qnx ?_
       refine Wp.ret ?_
       refine To.bret ?_
       refine To.ret ?_
       obtain rfl:=some_in h
       exact Qlv () 0
      ·refine Wp.skip ?_
       refine To.bnorm ?_
       refine To.next ?_
       refine Wp.reg ?_
       refine Qm ?_
       refine Q2 r_add ?_
       refine Qa ?_
       refine Sq.nil ?_
       obtain rfl:=some_in h
       exact Qrd () 0
     ·refine Wp.exit ?_
      refine To.exit ?_
      obtain rfl:=some_in h
      exact Qlv () 0
    ·clear hl
     rcases e1 with e1 | e1
     ·simp only [Sum.elim_inl] at h
      refine To.bexit ?_
      refine To.next ?_
      refine Qsr ?_
      refine Qa ?_
      refine Qnx ?_
      refine Wp.ret ?_
      refine To.bret ?_
      refine To.ret ?_
      obtain rfl:=some_in h
      exact Qe1
     ·simp only [Sum.elim_inr] at h
      refine To.bret ?_
      refine To.ret ?_
      refine To.bret ?_
      refine To.ret ?_
      obtain rfl:=some_in h
      exact Qe1
   ·refine Qsr ?_
    refine Q2 r_eql ?_
    refine Qa ?_
    refine Qnx ?_
    refine Qcd h (fun h=>?_) fun h=>?_
    ·refine Wp.seq ?_
     obtain ⟨y3,hy3,h⟩:=Qbs h
     refine Wp.draw mixed 7 [some 61, some 62, some 63, some 64, some 65, some 66, some 67] [[], [], [1], [0, 2], [], [4], [3, 5]] [.val _, .val _, .val _, .val _, .val _, .val _, .val _] [false, false, false, false, false, false, false] (by kernel_rfl) rfl rfl rfl (fun ps3 => ⟨Hl0 0 ty47, H1 (r_fa fd104_2), Hld 1 le_T_api_Match_Mask ty47, Hcl en122 (C_ref01_And hy3), H1 (r_fa fd104_1), Hld 1 le_T_api_Match_Value ty47, H2 (r_eqA eqv47 rfl eqg47 rfl), trivial⟩) fun ps3 => ?_
     refine Qa ?_
     refine Qnx ?_
     refine Wp.ret ?_
     refine To.bret ?_
     refine To.ret ?_
     obtain rfl:=some_in h
     exact Qe1
    ·refine Qsr ?_
     refine Q2 r_eql ?_
     refine Qa ?_
     refine Qnx ?_
     refine Qcd h (fun h=>?_) fun h=>?_
     ·refine Qsr ?_
      refine Q1 (r_fa fd104_1) ?_
      refine Qld 1 le_T_api_Match_Value ty47 ?_
      refine Ql0 0 ty47 ?_
      obtain ⟨y4,hy4,h⟩:=Qbs h
      refine Qcl en73 (C_ref01_Compare hy4) ?_
      refine Q2 r_leq ?_
      refine Qm ?_
      refine Qg (fun hb => r_load (i := 0) (Lens.id T_api_Value) (r := x3) ty47 (look_t rfl) rfl rfl rfl) ?_
      refine Qg1 (r_fa fd104_4) ?_
      refine Qg (fun hb => r_load (i := 1) ((Lens.id T_api_Match).comp le_T_api_Match_High) (r := x0.f_High) ty47 (look_tc rfl hb) rfl rfl rfl) ?_
      obtain ⟨y5,hy5,h⟩:=Qbs h
      refine Qg (fun hb => r_call en73 (C_ref01_Compare (condM_some hy5 hb)) ⟨look_tc rfl hb, look_tc rfl hb, trivial⟩) ?_
      refine Qg2 r_leq ?_
      refine Qan ?_
      refine Qa ?_
      refine Qnx ?_
      refine Wp.ret ?_
      refine To.bret ?_
      refine To.ret ?_
      obtain rfl:=some_in h
      exact Qe1
     ·refine Wp.skip ?_
      refine To.bnorm ?_
      refine To.next ?_
      refine Qsr ?_
      refine Qa ?_
      refine Qnx ?_
      refine Wp.ret ?_
      obtain rfl:=some_in h
      exact Qe1
theorem C_ref10_match {x0 : T_api_Match} {x1 : T_api_Match}  {r : Int} (h : L_ref10_match x0 x1 = some r) : Meets Try.prog 181 [VP.of (x0), VP.of (x1)] (VP.of (r)) := by
 unfold L_ref10_match at h
 refine Meets.of Try.func181 rfl Try.ntmps181 rfl fun W A => ?_
 refine Qsr ?_
 refine Qbx fun p1 => ?_
 refine Qbx fun p2 => ?_
 refine Qa ?_
 refine Qns ?_
 refine Wp.block ?_
 refine Qsr ?_
 refine Q1 (r_fa fd104_0) ?_
 refine Qld 1 le_T_api_Match_Present ty4 ?_
 refine Q1 (r_fa fd104_0) ?_
 refine Qld 0 le_T_api_Match_Present ty4 ?_
 refine Q2 (r_bne Try.underlying4) ?_
 refine Qm ?_
 refine Qg1 (r_fa fd104_0) ?_
 refine Qg (fun hb => r_load (i := 0) ((Lens.id T_api_Match).comp le_T_api_Match_Present) (r := x1.f_Present) ty4 (look_tc rfl hb) rfl rfl rfl) ?_
 refine Qan ?_
 refine Qa ?_
 refine Qnx ?_
 refine Qcd h (fun h=>?_) fun h=>?_
 ·refine Qsr ?_
  refine Qa ?_
  refine Qnx ?_
  refine Wp.ret ?_
  refine To.bret ?_
  refine To.ret ?_
  obtain rfl:=some_in h
  exact Qe1
 ·refine Qsr ?_
  refine Q1 (r_fa fd104_0) ?_
  refine Qld 1 le_T_api_Match_Present ty4 ?_
  refine Q1 (r_fa fd104_0) ?_
  refine Qld 0 le_T_api_Match_Present ty4 ?_
  refine Q2 (r_bne Try.underlying4) ?_
  refine Qa ?_
  refine Qnx ?_
  refine Qcd h (fun h=>?_) fun h=>?_
  ·refine Qsr ?_
   refine Qa ?_
   refine Qnx ?_
   refine Wp.ret ?_
   refine To.bret ?_
   refine To.ret ?_
   obtain rfl:=some_in h
   exact Qe1
  ·refine Qsr ?_
   refine Q1 (r_fa fd104_1) ?_
   refine Qld 1 le_T_api_Match_Value ty47 ?_
   refine Q1 (r_fa fd104_1) ?_
   refine Qld 0 le_T_api_Match_Value ty47 ?_
   refine Q2 (r_neA eqv47 rfl eqg47 rfl) ?_
   refine Qa ?_
   refine Qnx ?_
   refine Qcd h (fun h=>?_) fun h=>?_
   ·refine Qsr ?_
    refine Q1 (r_fa fd104_1) ?_
    refine Qld 1 le_T_api_Match_Value ty47 ?_
    refine Q1 (r_fa fd104_1) ?_
    refine Qld 0 le_T_api_Match_Value ty47 ?_
    obtain ⟨y1,hy1,h⟩:=Qbs h
    refine Qcl en73 (C_ref01_Compare hy1) ?_
    refine Qa ?_
    refine Qnx ?_
    refine Wp.ret ?_
    refine To.bret ?_
    refine To.ret ?_
    obtain rfl:=some_in h
    exact Qe1
   ·refine Qsr ?_
    refine Q1 (r_fa fd104_2) ?_
    refine Qld 1 le_T_api_Match_Mask ty47 ?_
    refine Q1 (r_fa fd104_2) ?_
    refine Qld 0 le_T_api_Match_Mask ty47 ?_
    refine Q2 (r_neA eqv47 rfl eqg47 rfl) ?_
    refine Qa ?_
    refine Qnx ?_
    refine Qcd h (fun h=>?_) fun h=>?_
    ·refine Qsr ?_
     refine Q1 (r_fa fd104_2) ?_
     refine Qld 1 le_T_api_Match_Mask ty47 ?_
     refine Q1 (r_fa fd104_2) ?_
     refine Qld 0 le_T_api_Match_Mask ty47 ?_
     obtain ⟨y2,hy2,h⟩:=Qbs h
     refine Qcl en73 (C_ref01_Compare hy2) ?_
     refine Qa ?_
     refine Qnx ?_
     refine Wp.ret ?_
     refine To.bret ?_
     refine To.ret ?_
     obtain rfl:=some_in h
     exact Qe1
    ·refine Qsr ?_
     refine Q1 (r_fa fd104_3) ?_
     refine Qld 1 le_T_api_Match_Prefix ty3 ?_
     refine Q1 (r_fa fd104_3) ?_
     refine Qld 0 le_T_api_Match_Prefix ty3 ?_
     refine Q2 r_neq ?_
     refine Qa ?_
     refine Qnx ?_
     refine Qcd h (fun h=>?_) fun h=>?_
     ·refine Qsr ?_
      refine Q1 (r_fa fd104_3) ?_
      refine Qld 1 le_T_api_Match_Prefix ty3 ?_
      refine Q1 (r_fa fd104_3) ?_
      refine Qld 0 le_T_api_Match_Prefix ty3 ?_
      obtain ⟨y3,hy3,h⟩:=Qbs h
      refine Qcl en150 (C_ref10_number hy3) ?_
      refine Qa ?_
      refine Qnx ?_
      refine Wp.ret ?_
      refine To.bret ?_
      refine To.ret ?_
      obtain rfl:=some_in h
      exact Qe1
     ·refine Wp.skip ?_
      refine To.bnorm ?_
      refine To.next ?_
      refine Qsr ?_
      refine Q1 (r_fa fd104_4) ?_
      refine Qld 1 le_T_api_Match_High ty47 ?_
      refine Q1 (r_fa fd104_4) ?_
      refine Qld 0 le_T_api_Match_High ty47 ?_
      obtain ⟨y4,hy4,h⟩:=Qbs h
      refine Qcl en73 (C_ref01_Compare hy4) ?_
      refine Qa ?_
      refine Qnx ?_
      refine Wp.ret ?_
      obtain rfl:=some_in h
      exact Qe1
theorem C_ref10_values {x0 : List T_api_Value} {x1 : List T_api_Value}  {r : Int} (h : L_ref10_values x0 x1 = some r) : Meets Try.prog 152 [VP.of (x0), VP.of (x1)] (VP.of (r)) := by
 unfold L_ref10_values at h
 refine Meets.of Try.func152 rfl Try.ntmps152 rfl fun W A => ?_
 refine Qsr ?_
 refine Qa ?_
 refine Qns ?_
 refine Qsr ?_
 refine Qa ?_
 refine Qnx ?_
 refine Wp.block ?_
 obtain ⟨e1,hl,h⟩:=Qbs h
 refine Qlp (γ:=Unit) (δ:=Unit) hl [0, 1] (fun s1 g1 => [(4, VP.of (0 : Int)), (5, VP.of (s1))]) (fun s1 g1 => []) (fun q1 => Sum.elim (fun q1 => Exit.exit 0) (fun q1 => Exit.ret) q1) (fun q1 g1 => Sum.elim (fun q1 => [(4, VP.of (0 : Int)), (5, VP.of (q1.1)), (16, VP.of (q1.2))]) (fun q1 => [(4, VP.of (q1.1)), (5, VP.of (q1.2.1)), (6, VP.of (q1.2.2.1)), (16, VP.of (q1.2.2.2.1)), (29, VP.of (q1.2.2.2.2))]) q1) (fun q1 g1 => Sum.elim (fun q1 => []) (fun q1 => []) q1) () (fun s1 r h g1 => ?_) fun g1 => ?_
 ·clear hl
  refine Wp.seq ?_
  refine Qsr ?_
  refine Qm ?_
  refine Qm ?_
  refine Q1 (r_len Try.underlying72) ?_
  refine Q2 r_lss ?_
  refine Qm ?_
  refine Qg1 r_move ?_
  refine Qg1 r_move ?_
  refine Qg1 (r_len Try.underlying72) ?_
  refine Qg2 r_lss ?_
  refine Qan ?_
  refine Qnx ?_
  refine Qcd h (fun h=>?_) fun h=>?_
  ·refine Qkn ?_
   refine Wp.seq ?_
   refine Wp.block ?_
   refine Wp.seq ?_
   obtain ⟨k1,hk1,h⟩:=Qbs h
   obtain ⟨k2,hk2,h⟩:=Qbs h
   obtain ⟨y1,hy1,h⟩:=Qbs h
   refine Wp.draw mixed 9 [some 19, some 20, some 21, some 22, some 23, some 24, some 25, some 26, some 27] [[], [], [0, 1], [2], [], [], [4, 5], [6], [3, 7]] [.val _, .val _, .val _, .val _, .val _, .val _, .val _, .val _, .val _] [false, false, false, false, false, false, false, false, false] (by kernel_rfl) rfl rfl rfl (fun ps1 => ⟨Hm, Hm, Hix hk1 Try.underlying72 ty47, H1 (r_loadp ty47), Hm, Hm, Hix hk2 Try.underlying72 ty47, H1 (r_loadp ty47), Hcl en73 (C_ref01_Compare hy1), trivial⟩) fun ps1 => ?_
   refine Qa ?_
   refine Qnr ?_
   refine Qm ?_
   refine Q2 r_neq ?_
   refine Qnx ?_
   refine Qcd h (fun h=>?_) fun h=>?_
   ·refine Qsr ?_
    refine Qm ?_
    refine Qa ?_
    refine Qnx ?_
    refine Wp.ret ?_
    refine To.bret ?_
    refine To.ret ?_
    obtain rfl:=some_in h
    exact Qlv () 0
   ·refine Wp.skip ?_
    refine To.bnorm ?_
    refine To.next ?_
    refine Wp.reg ?_
    refine Qm ?_
    refine Q2 r_add ?_
    refine Qa ?_
    refine Sq.nil ?_
    obtain rfl:=some_in h
    exact Qrd () 0
  ·refine Wp.exit ?_
   refine To.exit ?_
   obtain rfl:=some_in h
   exact Qlv () 0
 ·clear hl
  rcases e1 with e1 | e1
  ·simp only [Sum.elim_inl] at h
   refine To.bexit ?_
   refine To.next ?_
   refine Qsr ?_
   refine Qm ?_
   refine Q1 (r_len Try.underlying72) ?_
   refine Qm ?_
   refine Q1 (r_len Try.underlying72) ?_
   obtain ⟨y2,hy2,h⟩:=Qbs h
   refine Qcl en150 (C_ref10_number hy2) ?_
   refine Qa ?_
   refine Qnx ?_
   refine Wp.ret ?_
   obtain rfl:=some_in h
   exact Qe1
  ·simp only [Sum.elim_inr] at h
   refine To.bret ?_
   refine To.ret ?_
   obtain rfl:=some_in h
   exact Qe1
end Go.Proofs.Ytodajdohokmjnaa

namespace Go.Proofs.Ytodajdohokmjnaa
open Go Gv
set_option linter.unusedVariables false
set_option linter.unusedSimpArgs false
set_option maxRecDepth 100000
set_option maxHeartbeats 2000000
theorem C_mcase_Codes_Entry {x0 : T_mcase_Codes} {x1 : T_api_Schema} {x2 : Int} {pp0 : Nat} {r : T_api_Entry × T_mcase_Codes} (h : L_mcase_Codes_Entry x0 x1 x2 = some r) : MeetsO Try.prog 32 [VP.eq (.pointer (some ⟨pp0, 0, none⟩)), VP.of (x1), VP.of (x2)] [⟨some pp0, .var (x0 : T_mcase_Codes)⟩] (δ := Unit) (fun d => VP.of (r.1)) (fun d => [⟨some pp0, .var (r.2 : T_mcase_Codes)⟩]) := by
 unfold L_mcase_Codes_Entry at h
 refine MeetsO.of Try.func32 rfl Try.ntmps32 rfl fun W A => ?_
 refine Qsr ?_
 refine Qbx fun p1 => ?_
 refine Qal zr89 fun p2 => ?_
 refine Qns ?_
 obtain ⟨y1,hy1,h⟩:=Qbs h
 obtain ⟨k1,hk1,h⟩:=Qbs h
 refine Wp.draw mixed 10 [some 13, some 14, some 15, some 16, some 17, some 18, some 19, some 20, some 21, some 7] [[], [0], [], [], [3], [4], [2, 5], [1, 6], [7], []] [.val _, .val _, .val _, .val _, .val _, .val _, .val _, .val _, .val _, .new (.var (default : T_api_Table))] [false, false, false, false, false, false, false, false, false, false] (by kernel_rfl) rfl rfl rfl (fun ps1 => ⟨H1 (r_fa fd33_4), Hld 1 le_T_api_Schema_Tables ty28, Hm, H1 (r_fa fd33_4), Hld 1 le_T_api_Schema_Tables ty28, H1 (r_len Try.underlying28), Hcl en22 (C_mcase_Mod hy1), Hix hk1 Try.underlying28 ty136, H1 (r_loadp ty136), ao_alloc zr136, trivial⟩) fun ps1 => ?_
 refine Qs0 0 ty136 ?_
 refine Qnr ?_
 refine Q1 (r_fa fd136_0) ?_
 refine Qld 0 le_T_api_Table_ID ty3 ?_
 refine Qv (r_buildX (b := ({ (default : T_api_Entry) with f_Table := (lget x1.f_Tables k1).f_ID } : T_api_Entry)) [1, 4] zh89_1_4 rfl bu89 zr89 (.cons le_T_api_Entry_Table rfl (look_t rfl) rfl (by rfl) (.nil))) ?_
 refine Sq.own (α := T_api_Match) 104 ?_
 refine Sq.own (α := T_api_Value) 47 ?_
 refine Sq.allocX (z := (default : T_api_Entry)) [1, 4] zh89_1_4 zr89 rfl fun p3 => ?_
 refine Sq.own (α := T_api_Match) 104 ?_
 refine Sq.own (α := T_api_Value) 47 ?_
 refine Sq.storeW (i := 2) ty89 (look_t rfl) (look_t rfl) rfl ?_
 refine Qns ?_
 refine Qsr ?_
 refine Q1 (r_fa fd136_2) ?_
 refine Qld 5 le_T_api_Table_Keys ty134 ?_
 refine Q1 (r_len Try.underlying134) ?_
 refine Qm ?_
 refine Qnx ?_
 refine Wp.block ?_
 obtain ⟨e1,hl,h⟩:=Qbs h
 refine Qlp (γ:=(Option Nat × Nat)) (δ:=(Option Nat × Nat)) hl [0, 1, 2, 4, 6, 7, 8, 26, 27] (fun s1 g1 => [(28, VP.of (s1.1))]) (fun s1 g1 => [(2, ⟨some p3, .varX (s1.2.1 : T_api_Entry) [(1, slv g1.1 s1.2.2.1.length g1.2), (4, slv none ([] : List T_api_Value).length 0)]⟩), (4, ⟨g1.1, .row 104 (s1.2.2.1 : List T_api_Match) g1.2⟩), (8, ⟨some pp0, .var (s1.2.2.2 : T_mcase_Codes)⟩)]) (fun q1 => Exit.exit 0) (fun q1 g1 => [(28, VP.of (q1.1)), (29, VP.of (q1.2.1))]) (fun q1 g1 => [(2, ⟨some p3, .varX (q1.2.2.1 : T_api_Entry) [(1, slv g1.1 q1.2.2.2.1.length g1.2), (4, slv none ([] : List T_api_Value).length 0)]⟩), (4, ⟨g1.1, .row 104 (q1.2.2.2.1 : List T_api_Match) g1.2⟩), (8, ⟨some pp0, .var (q1.2.2.2.2 : T_mcase_Codes)⟩)]) (none, 0) (fun s1 r h g1 => ?_) fun g1 => ?_
 ·clear hl
  refine Qsr ?_
  refine Q2 r_lss ?_
  refine Qns ?_
  refine Qcd h (fun h=>?_) fun h=>?_
  ·refine Qkn ?_
   refine Wp.seq ?_
   refine Wp.block ?_
   refine Qsr ?_
   obtain ⟨k2,hk2,h⟩:=Qbs h
   refine Qix hk2 Try.underlying134 ty163 ?_
   refine Q1 (r_loadp ty163) ?_
   refine Qal zr163 fun p4 => ?_
   refine Qs0 0 ty163 ?_
   refine Qns ?_
   obtain ⟨y2,hy2,h⟩:=Qbs h
   obtain ⟨y3,hy3,h⟩:=Qbs h
   refine Qwl [0, 1, 2, 4, 6, 7, 8, 10, 26, 27, 28, 29, 30, 31] ?_
   refine Wp.drawD mixed (Hp 32 [] [] _ :: Hp 33 (0 :: []) (3 :: []) _ :: Hp 34 [] [] _ :: Hp 35 [] (8 :: []) _ :: Hp 36 [] (0 :: []) _ :: ⟨some 37, (2 :: 3 :: 4 :: []), (9 :: []), (9 :: []), fun _ => VP.of (y2.1), fun hd _ => ⟨some pp0, .var (y2.2 : T_mcase_Codes)⟩⟩ :: Hp 38 (5 :: []) [] _ :: ⟨some 39, (1 :: 6 :: []), (5 :: []), (5 :: []), fun hd => VP.eq (slv (hd 7 0) y3.length ((hd 7 1).getD 0)), fun hd _ => ⟨(hd 7 0), .row 104 (y3 : List T_api_Match) ((hd 7 1).getD 0)⟩⟩ :: Hp 40 [] [] _ :: ⟨none, (1 :: 7 :: 8 :: []), (3 :: []), (3 :: []), fun _ => VP.any, fun hd _ => ⟨some p3, .varX (({ s1.2.1 with f_Matches := [] } : T_api_Entry) : T_api_Entry) [(1, slv (hd 7 0) y3.length ((hd 7 1).getD 0)), (4, slv none ([] : List T_api_Value).length 0)]⟩⟩ :: []) _ (0 :: 1 :: 2 :: 4 :: 6 :: 7 :: 8 :: 10 :: 26 :: 27 :: 28 :: 29 :: 30 :: 31 :: []) rfl rfl (by kernel_rfl) ⟨D1 (r_fa fd89_1), Dv fun hd E' L' hE hL => r_loadH (i := 3) (q := 0) (β := T_api_Entry) (γ := T_api_Match) ty87 (look_t (hE _ _ rfl)) (hL 3 _ rfl rfl) rfl, Dm, Dl0 8 ty33, Dl0 0 ty163, ?_, Dv fun hd E' L' hE hL => r_bsl (r := [y2.1]) Try.underlying87 ty104 zr104 rfl rfl (.cons (by simp) (look_t (hE _ _ rfl)) (.nil)), ?_, D1 (r_fa fd89_1), ?_, trivial⟩ fun hd => ?_
   ·intro hd E' L' hE hL
    refine Sq.bring 9 (hL 9 _ rfl rfl) ?_
    refine Sq.callO (Lin := [⟨some pp0, .var (s1.2.2.2 : T_mcase_Codes)⟩]) (Lr := L'.eraseIdx 9) en77 (C_mcase_Codes_match hy2) ⟨look_t (hE _ _ rfl), look_t (hE _ _ rfl), look_t (hE _ _ rfl), trivial⟩ rfl fun q2 => ?_
    refine Sq.nil ?_
    refine To.back 9 (hL 9 _ rfl rfl) ?_
    exact To.fin (gm []) rfl rfl
   ·intro hd E' L' hE hL
    refine Sq.app (i := 5) Try.underlying87 ty104 zr104 (bytes := 64) (by kernel_rfl) (look_t (hE _ _ rfl)) (hL 5 _ rfl rfl) (look_t (hE _ _ rfl)) hy3 rfl fun key1 cap1 => ?_
    refine Sq.nil ?_
    exact To.fin (gm [key1, some cap1]) rfl rfl
   ·intro hd E' L' hE hL
    refine Sq.storeH (i := 3) (γ := T_api_Match) (b' := (({ s1.2.1 with f_Matches := [] } : T_api_Entry) : T_api_Entry)) (os' := [(1, slv (hd 7 0) y3.length ((hd 7 1).getD 0)), (4, slv none ([] : List T_api_Value).length 0)]) ((Lens.id T_api_Entry).comp le_T_api_Entry_Matches) ty87 (look_t (hE _ _ rfl)) (look_t (hE _ _ rfl)) slv_one (hL 3 _ rfl rfl) rfl rfl rfl ?_
    refine Sq.nil ?_
    exact To.fin (gm []) rfl rfl
   refine To.eqL (L2 := [⟨some p4, .var (lget ((lget x1.f_Tables k1).f_Keys) k2 : T_api_Key)⟩, ⟨none, .row 47 (([] : List T_api_Value) : List T_api_Value) 0⟩, ⟨none, .row 104 (([] : List T_api_Match) : List T_api_Match) 0⟩, ⟨some p3, .varX (({ s1.2.1 with f_Matches := [] } : T_api_Entry) : T_api_Entry) [(1, slv (hd 7 0) y3.length ((hd 7 1).getD 0)), (4, slv none ([] : List T_api_Value).length 0)]⟩, ⟨none, .row 47 (([] : List T_api_Value) : List T_api_Value) 0⟩, ⟨(hd 7 0), .row 104 (y3 : List T_api_Match) ((hd 7 1).getD 0)⟩, ⟨some (ps1 9), .var (lget x1.f_Tables k1 : T_api_Table)⟩, ⟨some p2, .var ((default : T_api_Entry) : T_api_Entry)⟩, ⟨some p1, .var (x1 : T_api_Schema)⟩, ⟨some pp0, .var (y2.2 : T_mcase_Codes)⟩]) rfl ?_
   refine Qtl [0, 1, 2, 4, 6, 7, 8, 10, 26, 27, 28, 29, 30, 31, 32, 34, 35, 36, 37, 38, 39, 40] ?_
   refine To.next ?_
   refine Qsr ?_
   refine Q1 (r_fa fd163_2) ?_
   refine Qld 0 le_T_api_Key_Kind ty3 ?_
   refine Q2 r_eql ?_
   refine Qm ?_
   refine Qg1 (r_fa fd163_2) ?_
   refine Qg (fun hb => r_load (i := 0) ((Lens.id T_api_Key).comp le_T_api_Key_Kind) (r := (lget ((lget x1.f_Tables k1).f_Keys) k2).f_Kind) ty3 (look_tc rfl hb) rfl rfl rfl) ?_
   refine Qg2 r_eql ?_
   obtain ⟨z1,hz1,h⟩:=Qbs h
   refine Qn hz1 (r_or (look_t rfl) (look_t rfl) (fun h => h)) ?_
   refine Qnx ?_
   obtain ⟨m1,hm1,h⟩:=Qbs h
   refine Qcm (γ:=Unit) [0, 1, 2, 4, 6, 7, 8, 10, 26, 27, 28, 29, 48] (fun g2 => []) (fun g2 => [(3, ⟨some p3, .varX (m1.1 : T_api_Entry) [(1, slv (hd 7 0) y3.length ((hd 7 1).getD 0)), (4, slv none ([] : List T_api_Value).length 0)]⟩), (9, ⟨some pp0, .var (m1.2 : T_mcase_Codes)⟩)]) (fun g2 => ?_) (fun hm hc => ?_) fun hm hc => ?_
   ·clear hm1
    refine To.bnorm ?_
    refine To.next ?_
    refine Wp.reg ?_
    refine Q2 r_add ?_
    refine Qm ?_
    refine Sq.nil ?_
    obtain rfl:=some_in h
    exact Qrd ((hd 7 0), ((hd 7 1).getD 0)) 1
   ·have h := cond_t hc hm1
    refine Wp.reg ?_
    refine Qm ?_
    refine Sq.bring 9 rfl ?_
    obtain ⟨y4,hy4,h⟩:=Qbs h
    refine QcO 1 en49 (C_mcase_Codes_Next hy4) fun q3 => ?_
    refine Q2 r_add ?_
    refine Q1 (r_fa fd89_2) ?_
    obtain ⟨z2,hz2,h⟩:=Qbs h
    refine Sq.storeX (i := 4) ((Lens.id T_api_Entry).comp le_T_api_Entry_Priority) (v := (w64 (1 + y4.1) : Int)) (b' := (z2 : T_api_Entry)) ty3 (look_t rfl) (look_t rfl) rfl rfl (some_in hz2) (by rfl) ?_
    refine Sq.nil ?_
    refine To.bring 9 rfl ?_
    refine To.bring 9 rfl ?_
    refine To.bring 9 rfl ?_
    refine To.bring 9 rfl ?_
    refine To.bring 9 rfl ?_
    refine To.bring 9 rfl ?_
    refine To.bring 9 rfl ?_
    refine To.bring 9 rfl ?_
    refine To.bring 9 rfl ?_
    obtain rfl:=some_in h
    exact Qmt 0 (hm ())
   ·have h := cond_f hc hm1
    refine Wp.skip ?_
    obtain rfl:=some_in h
    exact Qmt 0 (hm ())
  ·refine Wp.exit ?_
   refine To.exit ?_
   obtain rfl:=some_in h
   exact Qlv (g1.1, g1.2) 0
 ·clear hl
  refine To.bexit ?_
  refine To.next ?_
  refine Wp.seq ?_
  obtain ⟨y5,hy5,h⟩:=Qbs h
  obtain ⟨k3,hk3,h⟩:=Qbs h
  obtain ⟨z3,hz3,h⟩:=Qbs h
  refine Qwl [0, 1, 2, 4, 6, 7, 8, 26, 27, 28, 29] ?_
  refine Wp.drawD mixed (Hp 54 [] [] _ :: Hp 55 (0 :: []) (5 :: []) _ :: Hp 56 [] [] _ :: Hp 57 [] [] _ :: Hp 58 (3 :: []) (5 :: []) _ :: Hp 59 (4 :: []) [] _ :: ⟨some 60, (2 :: 5 :: []), (8 :: []), (8 :: []), fun _ => VP.of (y5.1), fun hd _ => ⟨some pp0, .var (y5.2 : T_mcase_Codes)⟩⟩ :: Hp 61 (1 :: 6 :: []) [] _ :: Hp 62 (7 :: []) [] _ :: Hp 63 [] [] _ :: ⟨none, (8 :: 9 :: []), (2 :: []), (2 :: []), fun _ => VP.any, fun hd _ => ⟨some p3, .varX (z3 : T_api_Entry) [(1, slv g1.1 e1.2.2.2.1.length g1.2), (4, slv none ([] : List T_api_Value).length 0)]⟩⟩ :: []) _ (0 :: 1 :: 2 :: 4 :: 6 :: 7 :: 8 :: 26 :: 27 :: 28 :: 29 :: []) rfl rfl (by kernel_rfl) ⟨D1 (r_fa fd136_3), Dld 5 le_T_api_Table_Actions ty64, Dm, D1 (r_fa fd136_3), Dld 5 le_T_api_Table_Actions ty64, D1 (r_len Try.underlying64), ?_, Dv fun hd E' L' hE hL => r_ias (k := k3) Try.underlying64 ty3 (look_t (hE _ _ rfl)) (look_t (hE _ _ rfl)) (idx_some hk3), D1 (r_loadp ty3), D1 (r_fa fd89_3), ?_, trivial⟩ fun hd => ?_
  ·intro hd E' L' hE hL
   refine Sq.bring 8 (hL 8 _ rfl rfl) ?_
   refine Sq.callO (Lin := [⟨some pp0, .var (e1.2.2.2.2 : T_mcase_Codes)⟩]) (Lr := L'.eraseIdx 8) en49 (C_mcase_Codes_Next hy5) ⟨look_t (hE _ _ rfl), look_t (hE _ _ rfl), trivial⟩ rfl fun q4 => ?_
   refine Sq.nil ?_
   refine To.back 8 (hL 8 _ rfl rfl) ?_
   exact To.fin (gm []) rfl rfl
  ·intro hd E' L' hE hL
   refine Sq.storeX (i := 2) ((Lens.id T_api_Entry).comp le_T_api_Entry_Action) (v := (lget ((lget x1.f_Tables k1).f_Actions) k3 : Int)) (b' := (z3 : T_api_Entry)) ty3 (look_t (hE _ _ rfl)) (look_t (hE _ _ rfl)) (hL 2 _ rfl rfl) rfl (some_in hz3) (by rfl) ?_
   refine Sq.nil ?_
   exact To.fin (gm []) rfl rfl
  refine To.eqL (L2 := [⟨none, .row 47 (([] : List T_api_Value) : List T_api_Value) 0⟩, ⟨none, .row 104 (([] : List T_api_Match) : List T_api_Match) 0⟩, ⟨some p3, .varX (z3 : T_api_Entry) [(1, slv g1.1 e1.2.2.2.1.length g1.2), (4, slv none ([] : List T_api_Value).length 0)]⟩, ⟨none, .row 47 (([] : List T_api_Value) : List T_api_Value) 0⟩, ⟨g1.1, .row 104 (e1.2.2.2.1 : List T_api_Match) g1.2⟩, ⟨some (ps1 9), .var (lget x1.f_Tables k1 : T_api_Table)⟩, ⟨some p2, .var ((default : T_api_Entry) : T_api_Entry)⟩, ⟨some p1, .var (x1 : T_api_Schema)⟩, ⟨some pp0, .var (y5.2 : T_mcase_Codes)⟩]) rfl ?_
  refine Qtl [0, 1, 2, 4, 6, 7, 8, 26, 27, 28, 29, 54, 55, 56, 57, 58, 59, 60, 61, 62, 63] ?_
  refine To.next ?_
  refine Wp.seq ?_
  refine Qsr ?_
  refine Ql0 7 ty33 ?_
  refine Q1 (r_fa fd89_3) ?_
  refine Qlx 2 le_T_api_Entry_Action ty3 ?_
  obtain ⟨y6,hy6,h⟩:=Qbs h
  refine Qcl en78 (C_mcase_ActionIn hy6) ?_
  refine Qv (r_field le_T_api_Action_Params fv168_2 ty165 rfl (look_t rfl) rfl rfl) ?_
  refine Q1 (r_len Try.underlying165) ?_
  refine Qm ?_
  refine Qnx ?_
  refine Wp.block ?_
  obtain ⟨e2,hl,h⟩:=Qbs h
  refine Qlp (γ:=(Option Nat × Nat)) (δ:=(Option Nat × Nat)) hl [0, 1, 2, 4, 6, 7, 8, 26, 27, 28, 29, 68, 69] (fun s2 g3 => [(70, VP.of (s2.1))]) (fun s2 g3 => [(2, ⟨some p3, .varX (s2.2.1 : T_api_Entry) [(1, slv g1.1 e1.2.2.2.1.length g1.2), (4, slv g3.1 s2.2.2.1.length g3.2)]⟩), (3, ⟨g3.1, .row 47 (s2.2.2.1 : List T_api_Value) g3.2⟩), (8, ⟨some pp0, .var (s2.2.2.2 : T_mcase_Codes)⟩)]) (fun q5 => Exit.exit 2) (fun q5 g3 => [(70, VP.of (q5.1)), (71, VP.of (q5.2.1))]) (fun q5 g3 => [(2, ⟨some p3, .varX (q5.2.2.1 : T_api_Entry) [(1, slv g1.1 e1.2.2.2.1.length g1.2), (4, slv g3.1 q5.2.2.2.1.length g3.2)]⟩), (3, ⟨g3.1, .row 47 (q5.2.2.2.1 : List T_api_Value) g3.2⟩), (8, ⟨some pp0, .var (q5.2.2.2.2 : T_mcase_Codes)⟩)]) (none, 0) (fun s2 r h g3 => ?_) fun g3 => ?_
  ·clear hl
   refine Qsr ?_
   refine Q2 r_lss ?_
   refine Qns ?_
   refine Qcd h (fun h=>?_) fun h=>?_
   ·refine Qkn ?_
    refine Wp.seq ?_
    refine Wp.block ?_
    refine Qsr ?_
    obtain ⟨k4,hk4,h⟩:=Qbs h
    refine Qix hk4 Try.underlying165 ty171 ?_
    refine Q1 (r_loadp ty171) ?_
    refine Qal zr171 fun p5 => ?_
    refine Qs0 0 ty171 ?_
    refine Qnx ?_
    obtain ⟨y7,hy7,h⟩:=Qbs h
    obtain ⟨z4,hz4,h⟩:=Qbs h
    obtain ⟨y8,hy8,h⟩:=Qbs h
    obtain ⟨y9,hy9,h⟩:=Qbs h
    refine Qwl [0, 1, 2, 4, 6, 7, 8, 12, 26, 27, 28, 29, 68, 69, 70, 71, 72, 73] ?_
    refine Wp.drawD mixed (Hp 74 [] [] _ :: Hp 75 (0 :: []) (3 :: []) _ :: Hp 76 [] [] _ :: ⟨some 77, (2 :: []), (9 :: []), (9 :: []), fun _ => VP.of (y7.1), fun hd _ => ⟨some pp0, .var (y7.2 : T_mcase_Codes)⟩⟩ :: Hp 78 (3 :: []) [] _ :: Hp 79 (4 :: []) [] _ :: Hp 80 [] [] _ :: Hp 81 (6 :: []) (0 :: []) _ :: Hp 82 (5 :: 7 :: []) [] _ :: Hp 83 (8 :: []) [] _ :: ⟨some 84, (1 :: 9 :: []), (4 :: []), (4 :: []), fun hd => VP.eq (slv (hd 10 0) y9.length ((hd 10 1).getD 0)), fun hd _ => ⟨(hd 10 0), .row 47 (y9 : List T_api_Value) ((hd 10 1).getD 0)⟩⟩ :: Hp 85 [] [] _ :: ⟨none, (1 :: 10 :: 11 :: []), (3 :: []), (3 :: []), fun _ => VP.any, fun hd _ => ⟨some p3, .varX (({ s2.2.1 with f_Args := [] } : T_api_Entry) : T_api_Entry) [(1, slv g1.1 e1.2.2.2.1.length g1.2), (4, slv (hd 10 0) y9.length ((hd 10 1).getD 0))]⟩⟩ :: []) _ (0 :: 1 :: 2 :: 4 :: 6 :: 7 :: 8 :: 12 :: 26 :: 27 :: 28 :: 29 :: 68 :: 69 :: 70 :: 71 :: 72 :: 73 :: []) rfl rfl (by kernel_rfl) ⟨D1 (r_fa fd89_4), Dv fun hd E' L' hE hL => r_loadH (i := 3) (q := 1) (β := T_api_Entry) (γ := T_api_Value) ty72 (look_t (hE _ _ rfl)) (hL 3 _ rfl rfl) rfl, Dm, ?_, D1 (r_ci64 Try.underlying3 Try.underlying45), Dv fun hd E' L' hE hL => (r_build (b := ({ (default : T_api_Value) with f_Lo := BitVec.ofInt 64 y7.1 } : T_api_Value)) rfl bu47 zr47 (.cons le_T_api_Value_Lo rfl (look_t (hE _ _ rfl)) rfl (.nil))).as (some_in hz4), D1 (r_fa fd171_1), Dld 0 le_T_api_Param_Bits ty3, Dv fun hd E' L' hE hL => r_call en79 (C_mcase_Low hy8) ⟨look_t (hE _ _ rfl), look_t (hE _ _ rfl), trivial⟩, Dv fun hd E' L' hE hL => r_bsl (r := [y8]) Try.underlying72 ty47 zr47 rfl rfl (.cons (by simp) (look_t (hE _ _ rfl)) (.nil)), ?_, D1 (r_fa fd89_4), ?_, trivial⟩ fun hd => ?_
    ·intro hd E' L' hE hL
     refine Sq.bring 9 (hL 9 _ rfl rfl) ?_
     refine Sq.callO (Lin := [⟨some pp0, .var (s2.2.2.2 : T_mcase_Codes)⟩]) (Lr := L'.eraseIdx 9) en49 (C_mcase_Codes_Next hy7) ⟨look_t (hE _ _ rfl), look_int 256, trivial⟩ rfl fun q6 => ?_
     refine Sq.nil ?_
     refine To.back 9 (hL 9 _ rfl rfl) ?_
     exact To.fin (gm []) rfl rfl
    ·intro hd E' L' hE hL
     refine Sq.app (i := 4) Try.underlying72 ty47 zr47 (bytes := 16) (by kernel_rfl) (look_t (hE _ _ rfl)) (hL 4 _ rfl rfl) (look_t (hE _ _ rfl)) hy9 rfl fun key2 cap2 => ?_
     refine Sq.nil ?_
     exact To.fin (gm [key2, some cap2]) rfl rfl
    ·intro hd E' L' hE hL
     refine Sq.storeH (i := 3) (γ := T_api_Value) (b' := (({ s2.2.1 with f_Args := [] } : T_api_Entry) : T_api_Entry)) (os' := [(1, slv g1.1 e1.2.2.2.1.length g1.2), (4, slv (hd 10 0) y9.length ((hd 10 1).getD 0))]) ((Lens.id T_api_Entry).comp le_T_api_Entry_Args) ty72 (look_t (hE _ _ rfl)) (look_t (hE _ _ rfl)) slv_one (hL 3 _ rfl rfl) rfl rfl rfl ?_
     refine Sq.nil ?_
     exact To.fin (gm []) rfl rfl
    refine To.eqL (L2 := [⟨some p5, .var (lget y6.f_Params k4 : T_api_Param)⟩, ⟨none, .row 47 (([] : List T_api_Value) : List T_api_Value) 0⟩, ⟨none, .row 104 (([] : List T_api_Match) : List T_api_Match) 0⟩, ⟨some p3, .varX (({ s2.2.1 with f_Args := [] } : T_api_Entry) : T_api_Entry) [(1, slv g1.1 e1.2.2.2.1.length g1.2), (4, slv (hd 10 0) y9.length ((hd 10 1).getD 0))]⟩, ⟨(hd 10 0), .row 47 (y9 : List T_api_Value) ((hd 10 1).getD 0)⟩, ⟨g1.1, .row 104 (e1.2.2.2.1 : List T_api_Match) g1.2⟩, ⟨some (ps1 9), .var (lget x1.f_Tables k1 : T_api_Table)⟩, ⟨some p2, .var ((default : T_api_Entry) : T_api_Entry)⟩, ⟨some p1, .var (x1 : T_api_Schema)⟩, ⟨some pp0, .var (y7.2 : T_mcase_Codes)⟩]) rfl ?_
    refine Qtl [0, 1, 2, 4, 6, 7, 8, 12, 26, 27, 28, 29, 68, 69, 70, 71, 72, 73, 74, 76, 77, 78, 79, 80, 81, 82, 83, 84, 85] ?_
    refine To.bnorm ?_
    refine To.next ?_
    refine Wp.reg ?_
    refine Q2 r_add ?_
    refine Qm ?_
    refine Sq.nil ?_
    obtain rfl:=some_in h
    exact Qrd ((hd 10 0), ((hd 10 1).getD 0)) 1
   ·refine Wp.exit ?_
    refine To.exit ?_
    obtain rfl:=some_in h
    exact Qlv (g3.1, g3.2) 0
  ·clear hl
   refine To.bexit ?_
   refine To.next ?_
   refine Qsr ?_
   refine Sq.thaw (β := T_api_Entry) (γ := T_api_Match) (b' := (({ e2.2.2.1 with f_Matches := e1.2.2.2.1 } : T_api_Entry) : T_api_Entry)) ((Lens.id T_api_Entry).comp le_T_api_Entry_Matches) 2 4 0 rfl rfl rfl rfl rfl rfl ?_
   refine Sq.thaw (β := T_api_Entry) (γ := T_api_Value) (b' := (({ ({ e2.2.2.1 with f_Matches := e1.2.2.2.1 } : T_api_Entry) with f_Args := e2.2.2.2.1 } : T_api_Entry) : T_api_Entry)) ((Lens.id T_api_Entry).comp le_T_api_Entry_Args) 2 3 0 rfl rfl rfl rfl rfl rfl ?_
   refine Sq.fromX 2 rfl ?_
   obtain ⟨z5,hz5,h⟩:=Qbs h
   refine Qn hz5 (r_load (i := 2) (Lens.id T_api_Entry) (r := ({ ({ e2.2.2.1 with f_Matches := e1.2.2.2.1 } : T_api_Entry) with f_Args := e2.2.2.2.1 } : T_api_Entry)) ty89 (look_t rfl) rfl rfl rfl) ?_
   refine Qs0 6 ty89 ?_
   refine Qnx ?_
   refine Wp.ret ?_
   refine To.bring 8 rfl ?_
   obtain rfl:=some_in h
   exact To.endO1 () (.cons_cons _ (List.nil_sublist _)) rfl rfl (rvo_c (i := 7) ty89 rfl rfl)
theorem C_entry_Prefix {x0 : T_api_Schema} {x1 : T_api_Entry}  {r : Int} (h : L_entry_Prefix x0 x1 = some r) : Meets Try.prog 146 [VP.of (x0), VP.of (x1)] (VP.of (r)) := by
 unfold L_entry_Prefix at h
 refine Meets.of Try.func146 rfl Try.ntmps146 rfl fun W A => ?_
 refine Qsr ?_
 refine Qbx fun p1 => ?_
 refine Qbx fun p2 => ?_
 refine Qa ?_
 refine Qnr ?_
 refine Ql0 1 ty33 ?_
 refine Ql0 0 ty89 ?_
 obtain ⟨y1,hy1,h⟩:=Qbs h
 refine Qcl en139 (C_entry_table hy1) ?_
 refine Qm ?_
 refine Qxt ?_
 refine Qxt ?_
 refine Qal zr136 fun p3 => ?_
 refine Qs0 0 ty136 ?_
 refine Qa ?_
 refine Qnr ?_
 refine Q1 (r_fa fd136_2) ?_
 refine Qld 0 le_T_api_Table_Keys ty134 ?_
 obtain ⟨y2,hy2,h⟩:=Qbs h
 refine Qv (r_call en155 (C_slices_IndexFunc_api_Key hy2) ⟨look_t rfl, look_fn1 en179 (fun _ _ => C_entry_Prefix_fn1), trivial⟩) ?_
 refine Qa ?_
 refine Qns ?_
 refine Qsr ?_
 refine Qm ?_
 refine Q1 r_not ?_
 refine Qm ?_
 refine Qg1 r_move ?_
 refine Qg2 r_lss ?_
 refine Qor ?_
 refine Qm ?_
 refine Qg1 r_move ?_
 refine Qg1 (r_fa fd89_1) ?_
 refine Qg (fun hb => r_load (i := 1) ((Lens.id T_api_Entry).comp le_T_api_Entry_Matches) (r := x1.f_Matches) ty87 (look_tc rfl hb) rfl rfl rfl) ?_
 refine Qg1 (r_len Try.underlying87) ?_
 refine Qg2 r_geq ?_
 obtain ⟨z1,hz1,h⟩:=Qbs h
 refine Qn hz1 (r_or (look_t rfl) (look_t rfl) (fun h => h)) ?_
 refine Qnx ?_
 refine Qcd h (fun h=>?_) fun h=>?_
 ·refine Qsr ?_
  refine Qa ?_
  refine Qnx ?_
  refine Wp.ret ?_
  refine To.ret ?_
  obtain rfl:=some_in h
  exact Qe1
 ·refine Qkn ?_
  refine Qsr ?_
  refine Q1 (r_fa fd89_1) ?_
  refine Qld 1 le_T_api_Entry_Matches ty87 ?_
  refine Qm ?_
  obtain ⟨k1,hk1,h⟩:=Qbs h
  refine Qix hk1 Try.underlying87 ty104 ?_
  refine Qfp le_T_api_Match_Prefix fd104_3 ?_
  refine Q1 (r_loadp ty3) ?_
  refine Qa ?_
  refine Qnx ?_
  refine Wp.ret ?_
  obtain rfl:=some_in h
  exact Qe1
theorem C_entry_Covers {x0 : T_api_Match} {x1 : Int} {x2 : Int} {x3 : T_api_Value}  {r : Bool} (h : L_entry_Covers x0 x1 x2 x3 = some r) : Meets Try.prog 140 [VP.of (x0), VP.of (x1), VP.of (x2), VP.of (x3)] (VP.of (r)) := by
 unfold L_entry_Covers at h
 refine Meets.of Try.func140 rfl Try.ntmps140 rfl fun W A => ?_
 refine Qsr ?_
 refine Qbx fun p1 => ?_
 refine Qbx fun p2 => ?_
 refine Qa ?_
 refine Qns ?_
 refine Qsr ?_
 refine Q1 (r_fa fd104_0) ?_
 refine Qld 1 le_T_api_Match_Present ty4 ?_
 refine Q1 r_not ?_
 refine Qnx ?_
 refine Qcd h (fun h=>?_) fun h=>?_
 ·refine Qsr ?_
  refine Qm ?_
  refine Q2 r_geq ?_
  refine Qm ?_
  refine Qg1 r_move ?_
  refine Qg2 r_leq ?_
  refine Qan ?_
  refine Qa ?_
  refine Qnx ?_
  refine Wp.ret ?_
  refine To.ret ?_
  obtain rfl:=some_in h
  exact Qe1
 ·refine Qkn ?_
  refine Wp.seq ?_
  refine Qsr ?_
  refine Qm ?_
  refine Qnx ?_
  refine Wp.block ?_
  refine Qsr ?_
  refine Q2 r_eql ?_
  refine Qa ?_
  refine Qnx ?_
  refine Qcd h (fun h=>?_) fun h=>?_
  ·refine Qsr ?_
   refine Ql0 0 ty47 ?_
   refine Q1 (r_fa fd104_1) ?_
   refine Qld 1 le_T_api_Match_Value ty47 ?_
   refine Q2 (r_eqA eqv47 rfl eqg47 rfl) ?_
   refine Qa ?_
   refine Qnx ?_
   refine Wp.ret ?_
   refine To.bret ?_
   refine To.ret ?_
   obtain rfl:=some_in h
   exact Qe1
  ·refine Qsr ?_
   refine Q2 r_eql ?_
   refine Qa ?_
   refine Qnx ?_
   refine Qcd h (fun h=>?_) fun h=>?_
   ·refine Qsr ?_
    refine Qm ?_
    refine Q1 (r_fa fd104_3) ?_
    refine Qld 1 le_T_api_Match_Prefix ty3 ?_
    obtain ⟨y1,hy1,h⟩:=Qbs h
    refine Qcl en177 (C_value_Leading hy1) ?_
    refine Qal zr47 fun p3 => ?_
    refine Qs0 0 ty47 ?_
    refine Qns ?_
    obtain ⟨y2,hy2,h⟩:=Qbs h
    obtain ⟨y3,hy3,h⟩:=Qbs h
    refine Wp.draw mixed 8 [some 32, some 33, some 34, some 35, some 36, some 37, some 38, some 39] [[], [], [0, 1], [], [3], [], [4, 5], [2, 6]] [.val _, .val _, .val _, .val _, .val _, .val _, .val _, .val _] [false, false, false, false, false, false, false, false] (by kernel_rfl) rfl rfl rfl (fun ps1 => ⟨Hl0 1 ty47, Hl0 0 ty47, Hcl en158 (C_value_And hy2), H1 (r_fa fd104_1), Hld 2 le_T_api_Match_Value ty47, Hl0 0 ty47, Hcl en158 (C_value_And hy3), H2 (r_eqA eqv47 rfl eqg47 rfl), trivial⟩) fun ps1 => ?_
    refine Qa ?_
    refine Qnx ?_
    refine Wp.ret ?_
    refine To.bret ?_
    refine To.ret ?_
    obtain rfl:=some_in h
    exact Qe1
   ·refine Qsr ?_
    refine Q2 r_eql ?_
    refine Qa ?_
    refine Qnx ?_
    refine Qcd h (fun h=>?_) fun h=>?_
    ·refine Wp.seq ?_
     obtain ⟨y4,hy4,h⟩:=Qbs h
     refine Wp.draw mixed 7 [some 42, some 43, some 44, some 45, some 46, some 47, some 48] [[], [], [1], [0, 2], [], [4], [3, 5]] [.val _, .val _, .val _, .val _, .val _, .val _, .val _] [false, false, false, false, false, false, false] (by kernel_rfl) rfl rfl rfl (fun ps2 => ⟨Hl0 0 ty47, H1 (r_fa fd104_2), Hld 1 le_T_api_Match_Mask ty47, Hcl en158 (C_value_And hy4), H1 (r_fa fd104_1), Hld 1 le_T_api_Match_Value ty47, H2 (r_eqA eqv47 rfl eqg47 rfl), trivial⟩) fun ps2 => ?_
     refine Qa ?_
     refine Qnx ?_
     refine Wp.ret ?_
     refine To.bret ?_
     refine To.ret ?_
     obtain rfl:=some_in h
     exact Qe1
    ·refine Qsr ?_
     refine Q2 r_eql ?_
     refine Qa ?_
     refine Qnx ?_
     refine Qcd h (fun h=>?_) fun h=>?_
     ·refine Qsr ?_
      refine Q1 (r_fa fd104_1) ?_
      refine Qld 1 le_T_api_Match_Value ty47 ?_
      refine Ql0 0 ty47 ?_
      obtain ⟨y5,hy5,h⟩:=Qbs h
      refine Qcl en67 (C_value_Compare hy5) ?_
      refine Q2 r_leq ?_
      refine Qm ?_
      refine Qg (fun hb => r_load (i := 0) (Lens.id T_api_Value) (r := x3) ty47 (look_t rfl) rfl rfl rfl) ?_
      refine Qg1 (r_fa fd104_4) ?_
      refine Qg (fun hb => r_load (i := 1) ((Lens.id T_api_Match).comp le_T_api_Match_High) (r := x0.f_High) ty47 (look_tc rfl hb) rfl rfl rfl) ?_
      obtain ⟨y6,hy6,h⟩:=Qbs h
      refine Qg (fun hb => r_call en67 (C_value_Compare (condM_some hy6 hb)) ⟨look_tc rfl hb, look_tc rfl hb, trivial⟩) ?_
      refine Qg2 r_leq ?_
      refine Qan ?_
      refine Qa ?_
      refine Qnx ?_
      refine Wp.ret ?_
      refine To.bret ?_
      refine To.ret ?_
      obtain rfl:=some_in h
      exact Qe1
     ·refine Wp.skip ?_
      refine To.bnorm ?_
      refine To.next ?_
      refine Qsr ?_
      refine Qa ?_
      refine Qnx ?_
      refine Wp.ret ?_
      obtain rfl:=some_in h
      exact Qe1
end Go.Proofs.Ytodajdohokmjnaa

namespace Go.Proofs.Ytodajdohokmjnaa
open Go Gv
set_option linter.unusedVariables false
set_option linter.unusedSimpArgs false
set_option maxRecDepth 100000
set_option maxHeartbeats 2000000
theorem C_ref10_Prefix {x0 : T_api_Schema} {x1 : T_api_Entry}  {r : Int} (h : L_ref10_Prefix x0 x1 = some r) : Meets Try.prog 134 [VP.of (x0), VP.of (x1)] (VP.of (r)) := by
 unfold L_ref10_Prefix at h
 refine Meets.of Try.func134 rfl Try.ntmps134 rfl fun W A => ?_
 refine Qsr ?_
 refine Qbx fun p1 => ?_
 refine Qbx fun p2 => ?_
 refine Qa ?_
 refine Qnr ?_
 refine Ql0 1 ty33 ?_
 refine Q1 (r_fa fd89_0) ?_
 refine Qld 0 le_T_api_Entry_Table ty3 ?_
 obtain ⟨y1,hy1,h⟩:=Qbs h
 refine Qcl en86 (C_ref04_TableOf hy1) ?_
 refine Qa ?_
 refine Qns ?_
 refine Qsr ?_
 refine Qm ?_
 refine Q2 r_lss ?_
 refine Qnx ?_
 refine Qcd h (fun h=>?_) fun h=>?_
 ·refine Qsr ?_
  refine Qa ?_
  refine Qnx ?_
  refine Wp.ret ?_
  refine To.ret ?_
  obtain rfl:=some_in h
  exact Qe1
 ·refine Qkn ?_
  refine Wp.seq ?_
  refine Qsr ?_
  refine Q1 (r_fa fd33_4) ?_
  refine Qld 1 le_T_api_Schema_Tables ty28 ?_
  refine Qm ?_
  obtain ⟨k1,hk1,h⟩:=Qbs h
  refine Qix hk1 Try.underlying28 ty136 ?_
  refine Qfp le_T_api_Table_Keys fd136_2 ?_
  refine Q1 (r_loadp ty134) ?_
  refine Q1 (r_len Try.underlying134) ?_
  refine Qm ?_
  refine Qnx ?_
  refine Wp.block ?_
  obtain ⟨e1,hl,h⟩:=Qbs h
  refine Qlp (γ:=Unit) (δ:=Unit) hl [0, 1, 2, 3, 5, 13, 19, 20] (fun s1 g1 => [(4, VP.of (0 : Int)), (21, VP.of (s1))]) (fun s1 g1 => []) (fun q1 => Sum.elim (fun q1 => Exit.exit 0) (fun q1 => Exit.ret) q1) (fun q1 g1 => Sum.elim (fun q1 => [(4, VP.of (0 : Int)), (21, VP.of (q1.1)), (22, VP.of (q1.2))]) (fun q1 => [(4, VP.of (q1.1)), (6, VP.of (q1.2.1)), (21, VP.of (q1.2.2.1)), (22, VP.of (q1.2.2.2.1)), (35, VP.of (q1.2.2.2.2))]) q1) (fun q1 g1 => Sum.elim (fun q1 => []) (fun q1 => []) q1) () (fun s1 r h g1 => ?_) fun g1 => ?_
  ·clear hl
   refine Qsr ?_
   refine Q2 r_lss ?_
   refine Qns ?_
   refine Qcd h (fun h=>?_) fun h=>?_
   ·refine Qkn ?_
    refine Wp.seq ?_
    refine Wp.block ?_
    refine Qsr ?_
    refine Qm ?_
    obtain ⟨k2,hk2,h⟩:=Qbs h
    refine Qix hk2 Try.underlying134 ty163 ?_
    refine Q1 (r_loadp ty163) ?_
    refine Qal zr163 fun p3 => ?_
    refine Qa ?_
    refine Qs0 0 ty163 ?_
    refine Qnr ?_
    refine Q1 (r_fa fd163_2) ?_
    refine Qld 0 le_T_api_Key_Kind ty3 ?_
    refine Q2 r_eql ?_
    refine Qm ?_
    refine Qg1 r_move ?_
    refine Qg1 (r_fa fd89_1) ?_
    refine Qg (fun hb => r_load (i := 1) ((Lens.id T_api_Entry).comp le_T_api_Entry_Matches) (r := x1.f_Matches) ty87 (look_tc rfl hb) rfl rfl rfl) ?_
    refine Qg1 (r_len Try.underlying87) ?_
    refine Qg2 r_lss ?_
    obtain ⟨z1,hz1,h⟩:=Qbs h
    refine Qn hz1 (r_and (look_t rfl) (look_t rfl) (fun h => h)) ?_
    refine Qnx ?_
    refine Qcd h (fun h=>?_) fun h=>?_
    ·refine Qsr ?_
     refine Q1 (r_fa fd89_1) ?_
     refine Qld 1 le_T_api_Entry_Matches ty87 ?_
     refine Qm ?_
     obtain ⟨k3,hk3,h⟩:=Qbs h
     refine Qix hk3 Try.underlying87 ty104 ?_
     refine Qfp le_T_api_Match_Prefix fd104_3 ?_
     refine Q1 (r_loadp ty3) ?_
     refine Qa ?_
     refine Qnx ?_
     refine Wp.ret ?_
     refine To.bret ?_
     refine To.ret ?_
     obtain rfl:=some_in h
     exact Qlv () 1
    ·refine Wp.skip ?_
     refine To.bnorm ?_
     refine To.next ?_
     refine Wp.reg ?_
     refine Q2 r_add ?_
     refine Qm ?_
     refine Sq.nil ?_
     obtain rfl:=some_in h
     exact Qrd () 1
   ·refine Wp.exit ?_
    refine To.exit ?_
    obtain rfl:=some_in h
    exact Qlv () 0
  ·clear hl
   rcases e1 with e1 | e1
   ·simp only [Sum.elim_inl] at h
    refine To.bexit ?_
    refine To.next ?_
    refine Qsr ?_
    refine Qa ?_
    refine Qnx ?_
    refine Wp.ret ?_
    obtain rfl:=some_in h
    exact Qe1
   ·simp only [Sum.elim_inr] at h
    refine To.bret ?_
    refine To.ret ?_
    obtain rfl:=some_in h
    exact Qe1
theorem Ch0_1_ordered_List_Remove {x0 : T_ordered_List} {x1 : Int} {pp0 : Nat} {key00_0 : Option Nat} {cap00_0 : Nat} {r : Bool × T_ordered_List} (h : Lh0_1_ordered_List_Remove x0 x1 = some r) : MeetsO Try.prog 48 [VP.eq (.pointer (some ⟨pp0, 0, none⟩)), VP.of (x1)] [⟨some pp0, .varX (({ x0 with f_l := [] } : T_ordered_List) : T_ordered_List) [(10, slv key00_0 x0.f_l.length cap00_0)]⟩, ⟨key00_0, .row 92 (x0.f_l : List T_api_Installed) cap00_0⟩] (δ := (Option Nat × Nat)) (fun d => VP.of (r.1)) (fun d => [⟨some pp0, .varX (({ r.2 with f_l := [] } : T_ordered_List) : T_ordered_List) [(10, slv d.1 (r.2.f_l).length d.2)]⟩, ⟨d.1, .row 92 (r.2.f_l : List T_api_Installed) d.2⟩]) := by
 unfold Lh0_1_ordered_List_Remove at h
 refine MeetsO.of Try.func48 rfl Try.ntmps48 rfl fun W A => ?_
 refine Qsr ?_
 refine Qa ?_
 refine Qnr ?_
 refine Qm ?_
 refine Qm ?_
 obtain ⟨y1,hy1,h⟩:=Qbs h
 refine Sq.vS (HS.call [0, 1] en82 (Ch0_1_ordered_List_find hy1) ⟨look_t rfl, look_t rfl, trivial⟩ rfl ⟨rfl, rfl, trivial⟩ rfl) rfl rfl rfl ?_
 refine Qa ?_
 refine Qns ?_
 refine Qsr ?_
 refine Qm ?_
 refine Q2 r_lss ?_
 refine Qnx ?_
 refine Qcd h (fun h=>?_) fun h=>?_
 ·refine Qsr ?_
  refine Qa ?_
  refine Qnx ?_
  refine Wp.ret ?_
  refine To.ret ?_
  refine To.bring 1 rfl ?_
  refine To.bring 1 rfl ?_
  obtain rfl:=some_in h
  exact Qo1 (key00_0, cap00_0)
 ·refine Qkn ?_
  refine Qsr ?_
  refine Qm ?_
  refine Qm ?_
  refine Q1 r_nck ?_
  refine Q1 (r_fa fd161_1) ?_
  refine Qv (r_loadH (i := 0) (q := 0) (β := T_ordered_List) (γ := T_api_Installed) ty84 (look_t rfl) rfl rfl) ?_
  refine Qm ?_
  refine Qm ?_
  refine Q2 r_add ?_
  refine Sq.bring 1 rfl ?_
  obtain ⟨y2,hy2,h⟩:=Qbs h
  refine QcO 1 en95 (Cop0_slices_Delete_api_Installed hy2) fun q1 => ?_
  refine Q1 r_nck ?_
  refine Q1 (r_fa fd161_1) ?_
  refine Sq.storeH (i := 1) (γ := T_api_Installed) (b' := (({ x0 with f_l := [] } : T_ordered_List) : T_ordered_List)) (os' := [(10, slv q1.1 y2.length q1.2)]) ((Lens.id T_ordered_List).comp le_T_ordered_List_l) ty84 (look_t rfl) (look_t rfl) slv_one rfl rfl rfl rfl ?_
  refine Qnr ?_
  refine Qa ?_
  refine Qnx ?_
  refine Wp.ret ?_
  refine To.bring 0 rfl ?_
  refine To.bring 1 rfl ?_
  obtain rfl:=some_in h
  exact Qo1 (q1.1, q1.2)
theorem C_mcase_Codes_states {x0 : T_mcase_Codes} {pp0 : Nat} {r : (List T_api_State) × T_mcase_Codes} (h : L_mcase_Codes_states x0 = some r) : MeetsO Try.prog 50 [VP.eq (.pointer (some ⟨pp0, 0, none⟩))] [⟨some pp0, .var (x0 : T_mcase_Codes)⟩] (δ := Unit) (fun d => VP.of (r.1)) (fun d => [⟨some pp0, .var (r.2 : T_mcase_Codes)⟩]) := by
 unfold L_mcase_Codes_states at h
 refine MeetsO.of Try.func50 rfl Try.ntmps50 rfl fun W A => ?_
 refine Qsr ?_
 refine Qv (r_asg (look_nil (α := T_api_State))) ?_
 refine Qnr ?_
 refine Qbl ([0, 0, 65535, 3] : List Int) Try.underlying64 ty3 zr3 ?_
 refine Qa ?_
 refine Qnr ?_
 refine Qm ?_
 refine Qm ?_
 refine Sq.bring 0 rfl ?_
 obtain ⟨y1,hy1,h⟩:=Qbs h
 refine QcO 1 en49 (C_mcase_Codes_Next hy1) fun q1 => ?_
 obtain ⟨k1,hk1,h⟩:=Qbs h
 refine Qix hk1 Try.underlying64 ty3 ?_
 refine Q1 (r_loadp ty3) ?_
 refine Qv (r_buildX (b := ({ (default : T_api_State) with f_ID := 1, f_Header := 1, f_Select := 4, f_Default := lget ([0, 0, 65535, 3] : List Int) k1 } : T_api_State)) [3] zh196_3 rfl bu196 zr196 (.cons le_T_api_State_ID rfl (look_int 1) rfl (by rfl) (.cons le_T_api_State_Header rfl (look_int 1) rfl (by rfl) (.cons le_T_api_State_Select rfl (look_int 4) rfl (by rfl) (.cons le_T_api_State_Default rfl (look_t rfl) rfl (by rfl) (.nil)))))) ?_
 refine Sq.own (α := T_api_Case) 198 ?_
 refine Sq.allocX (z := (default : T_api_State)) [3] zh196_3 zr196 rfl fun p1 => ?_
 refine Sq.own (α := T_api_Case) 198 ?_
 refine Sq.storeW (i := 1) ty196 (look_t rfl) (look_t rfl) rfl ?_
 refine Qnr ?_
 refine Qv (r_build (b := ({ (default : T_api_Value) with f_Lo := 1#64 } : T_api_Value)) rfl bu47 zr47 (.cons le_T_api_Value_Lo rfl (look_u64 1 rfl) rfl (.nil))) ?_
 refine Qv (r_build (b := ({ (default : T_api_Value) with f_Lo := 15#64 } : T_api_Value)) rfl bu47 zr47 (.cons le_T_api_Value_Lo rfl (look_u64 15 rfl) rfl (.nil))) ?_
 obtain ⟨z1,hz1,h⟩:=Qbs h
 refine Qn hz1 (r_build (b := { f_Value := ({ (default : T_api_Value) with f_Lo := 1#64 } : T_api_Value), f_Mask := ({ (default : T_api_Value) with f_Lo := 15#64 } : T_api_Value), f_Next := 2 : T_api_Case }) rfl bu198 zr198 (.cons le_T_api_Case_Value rfl (look_t rfl) rfl (.cons le_T_api_Case_Mask rfl (look_t rfl) rfl (.cons le_T_api_Case_Next rfl (look_int 2) rfl (.nil))))) ?_
 refine Qv (r_build (b := ({ (default : T_api_Value) with f_Lo := 2#64 } : T_api_Value)) rfl bu47 zr47 (.cons le_T_api_Value_Lo rfl (look_u64 2 rfl) rfl (.nil))) ?_
 refine Qv (r_build (b := ({ (default : T_api_Value) with f_Lo := 3#64 } : T_api_Value)) rfl bu47 zr47 (.cons le_T_api_Value_Lo rfl (look_u64 3 rfl) rfl (.nil))) ?_
 obtain ⟨z2,hz2,h⟩:=Qbs h
 refine Qn hz2 (r_build (b := { f_Value := ({ (default : T_api_Value) with f_Lo := 2#64 } : T_api_Value), f_Mask := ({ (default : T_api_Value) with f_Lo := 3#64 } : T_api_Value), f_Next := 3 : T_api_Case }) rfl bu198 zr198 (.cons le_T_api_Case_Value rfl (look_t rfl) rfl (.cons le_T_api_Case_Mask rfl (look_t rfl) rfl (.cons le_T_api_Case_Next rfl (look_int 3) rfl (.nil))))) ?_
 refine Sq.bslO (α := T_api_Case) (r := [z1, z2]) Try.underlying194 ty198 zr198 rfl rfl (.cons (by simp) (look_t rfl) (.cons (by simp) (look_t rfl) (.nil))) rfl fun key1 => ?_
 refine Q1 (r_fa fd196_3) ?_
 refine Sq.storeH (i := 2) (γ := T_api_Case) (b' := (({ ({ (default : T_api_State) with f_ID := 1, f_Header := 1, f_Select := 4, f_Default := lget ([0, 0, 65535, 3] : List Int) k1 } : T_api_State) with f_Cases := [] } : T_api_State) : T_api_State)) (os' := [(3, slv key1 [z1, z2].length 2)]) ((Lens.id T_api_State).comp le_T_api_State_Cases) ty194 (look_t rfl) (look_t rfl) slv_one rfl rfl rfl rfl ?_
 refine Qns ?_
 refine Qsr ?_
 refine Qm ?_
 refine Sq.bring 4 rfl ?_
 obtain ⟨y2,hy2,h⟩:=Qbs h
 refine QcO 1 en54 (C_mcase_Codes_Bool hy2) fun q2 => ?_
 refine Qnx ?_
 obtain ⟨m1,hm1,h⟩:=Qbs h
 refine Qcm (γ:=(Option Nat × Nat)) [0, 2, 3, 4, 23] (fun g1 => []) (fun g1 => [(0, ⟨some pp0, .var (m1.1 : T_mcase_Codes)⟩), (1, ⟨g1.1, .row 198 (m1.2 : List T_api_Case) g1.2⟩), (3, ⟨some p1, .varX (({ ({ (default : T_api_State) with f_ID := 1, f_Header := 1, f_Select := 4, f_Default := lget ([0, 0, 65535, 3] : List Int) k1 } : T_api_State) with f_Cases := [] } : T_api_State) : T_api_State) [(3, slv g1.1 m1.2.length g1.2)]⟩)]) (fun g1 => ?_) (fun hm hc => ?_) fun hm hc => ?_
 ·clear hm1
  refine To.next ?_
  refine Qsr ?_
  refine Qm ?_
  refine Qm ?_
  refine Sq.bring 0 rfl ?_
  obtain ⟨y3,hy3,h⟩:=Qbs h
  refine QcO 1 en49 (C_mcase_Codes_Next hy3) fun q3 => ?_
  obtain ⟨k2,hk2,h⟩:=Qbs h
  refine Qix hk2 Try.underlying64 ty3 ?_
  refine Q1 (r_loadp ty3) ?_
  obtain ⟨z3,hz3,h⟩:=Qbs h
  refine Qn hz3 (r_build (b := ({ (default : T_api_State) with f_ID := 2, f_Header := 2, f_Default := lget ([0, 0, 65535, 3] : List Int) k2 } : T_api_State)) rfl bu196 zr196 (.cons le_T_api_State_ID rfl (look_int 2) rfl (.cons le_T_api_State_Header rfl (look_int 2) rfl (.cons le_T_api_State_Default rfl (look_t rfl) rfl (.nil))))) ?_
  refine Qal zr196 fun p2 => ?_
  refine Qs0 0 ty196 ?_
  refine Qnr ?_
  obtain ⟨z4,hz4,h⟩:=Qbs h
  refine Qn hz4 (r_build (b := ({ (default : T_api_State) with f_ID := 3, f_Header := 3, f_Select := 9, f_Default := 0 } : T_api_State)) rfl bu196 zr196 (.cons le_T_api_State_ID rfl (look_int 3) rfl (.cons le_T_api_State_Header rfl (look_int 3) rfl (.cons le_T_api_State_Select rfl (look_int 9) rfl (.cons le_T_api_State_Default rfl (look_int 0) rfl (.nil)))))) ?_
  refine Qal zr196 fun p3 => ?_
  refine Qs0 0 ty196 ?_
  refine Qns ?_
  refine Qsr ?_
  refine Qm ?_
  refine Sq.bring 2 rfl ?_
  obtain ⟨y4,hy4,h⟩:=Qbs h
  refine QcO 1 en49 (C_mcase_Codes_Next hy4) fun q4 => ?_
  refine Q2 r_eql ?_
  refine Qnx ?_
  obtain ⟨m2,hm2,h⟩:=Qbs h
  refine Qcm (γ:=Unit) [0, 2, 3, 4, 5, 6, 23, 50] (fun g2 => []) (fun g2 => [(0, ⟨some pp0, .var (m2.1 : T_mcase_Codes)⟩), (1, ⟨some p3, .var (m2.2 : T_api_State)⟩)]) (fun g2 => ?_) (fun hm hc => ?_) fun hm hc => ?_
  ·clear hm2
   refine To.next ?_
   refine Qsr ?_
   refine Sq.thaw (β := T_api_State) (γ := T_api_Case) (b' := (({ ({ (default : T_api_State) with f_ID := 1, f_Header := 1, f_Select := 4, f_Default := lget ([0, 0, 65535, 3] : List Int) k1 } : T_api_State) with f_Cases := m1.2 } : T_api_State) : T_api_State)) ((Lens.id T_api_State).comp le_T_api_State_Cases) 5 3 0 rfl rfl rfl rfl rfl rfl ?_
   refine Sq.fromX 5 rfl ?_
   obtain ⟨z5,hz5,h⟩:=Qbs h
   refine Qn hz5 (r_load (i := 5) (Lens.id T_api_State) (r := ({ ({ (default : T_api_State) with f_ID := 1, f_Header := 1, f_Select := 4, f_Default := lget ([0, 0, 65535, 3] : List Int) k1 } : T_api_State) with f_Cases := m1.2 } : T_api_State)) ty196 (look_t rfl) rfl rfl rfl) ?_
   refine Ql0 2 ty196 ?_
   refine Ql0 1 ty196 ?_
   refine Qbl [z5, z3, m2.2] Try.underlying26 ty196 zr196 ?_
   refine Qa ?_
   refine Qnx ?_
   refine Wp.ret ?_
   refine To.bring 0 rfl ?_
   obtain rfl:=some_in h
   exact Qo1 ()
  ·have h := cond_t hc hm2
   refine Wp.reg ?_
   refine Qv (r_build (b := ({ (default : T_api_Value) with f_Lo := 5#64 } : T_api_Value)) rfl bu47 zr47 (.cons le_T_api_Value_Lo rfl (look_u64 5 rfl) rfl (.nil))) ?_
   refine Qv (r_build (b := ({ (default : T_api_Value) with f_Lo := 15#64 } : T_api_Value)) rfl bu47 zr47 (.cons le_T_api_Value_Lo rfl (look_u64 15 rfl) rfl (.nil))) ?_
   refine Qm ?_
   refine Sq.bring 0 rfl ?_
   obtain ⟨y5,hy5,h⟩:=Qbs h
   refine QcO 1 en49 (C_mcase_Codes_Next hy5) fun q5 => ?_
   refine Q2 r_add ?_
   obtain ⟨z6,hz6,h⟩:=Qbs h
   refine Qn hz6 (r_build (b := { f_Value := ({ (default : T_api_Value) with f_Lo := 5#64 } : T_api_Value), f_Mask := ({ (default : T_api_Value) with f_Lo := 15#64 } : T_api_Value), f_Next := w64 (1 + y5.1) : T_api_Case }) rfl bu198 zr198 (.cons le_T_api_Case_Value rfl (look_t rfl) rfl (.cons le_T_api_Case_Mask rfl (look_t rfl) rfl (.cons le_T_api_Case_Next rfl (look_t rfl) rfl (.nil))))) ?_
   refine Qbl [z6] Try.underlying194 ty198 zr198 ?_
   refine Q1 (r_fa fd196_3) ?_
   refine Qst 1 le_T_api_State_Cases ty194 ?_
   refine Sq.nil ?_
   obtain rfl:=some_in h
   exact Qmt 0 (hm ())
  ·have h := cond_f hc hm2
   refine Wp.skip ?_
   obtain rfl:=some_in h
   exact Qmt 0 (hm ())
 ·have h := cond_t hc hm1
  obtain ⟨y6,hy6,h⟩:=Qbs h
  obtain ⟨z7,hz7,h⟩:=Qbs h
  obtain ⟨y7,hy7,h⟩:=Qbs h
  obtain ⟨k3,hk3,h⟩:=Qbs h
  obtain ⟨z8,hz8,h⟩:=Qbs h
  obtain ⟨y8,hy8,h⟩:=Qbs h
  refine Qwl [0, 2, 3, 4, 7, 8, 9, 10, 11, 12, 13, 14, 15, 16, 17, 18, 19, 20, 21, 22, 23] ?_
  refine Wp.drawD mixed (Hp 24 [] [] _ :: Hp 25 (0 :: []) (3 :: []) _ :: Hp 26 [] [] _ :: ⟨some 27, (2 :: []), (0 :: []), (0 :: []), fun _ => VP.of (y6.1), fun hd _ => ⟨some pp0, .var (y6.2 : T_mcase_Codes)⟩⟩ :: Hp 28 (3 :: []) [] _ :: Hp 29 (4 :: []) [] _ :: Hp 30 (5 :: []) [] _ :: Hp 31 [] [] _ :: Hp 32 [] [] _ :: Hp 33 [] [] _ :: ⟨some 34, (3 :: 9 :: []), (0 :: []), (0 :: []), fun _ => VP.of (y7.1), fun hd _ => ⟨some pp0, .var (y7.2 : T_mcase_Codes)⟩⟩ :: Hp 35 (8 :: 10 :: []) [] _ :: Hp 36 (11 :: []) [] _ :: Hp 37 (6 :: 7 :: 12 :: []) [] _ :: Hp 38 (13 :: []) [] _ :: ⟨some 39, (1 :: 14 :: []), (1 :: []), (1 :: []), fun hd => VP.eq (slv (hd 15 0) y8.length ((hd 15 1).getD 0)), fun hd _ => ⟨(hd 15 0), .row 198 (y8 : List T_api_Case) ((hd 15 1).getD 0)⟩⟩ :: Hp 40 [] [] _ :: ⟨none, (1 :: 15 :: 16 :: []), (3 :: []), (3 :: []), fun _ => VP.any, fun hd _ => ⟨some p1, .varX (({ ({ (default : T_api_State) with f_ID := 1, f_Header := 1, f_Select := 4, f_Default := lget ([0, 0, 65535, 3] : List Int) k1 } : T_api_State) with f_Cases := [] } : T_api_State) : T_api_State) [(3, slv (hd 15 0) y8.length ((hd 15 1).getD 0))]⟩⟩ :: []) _ (0 :: 2 :: 3 :: 4 :: 7 :: 8 :: 9 :: 10 :: 11 :: 12 :: 13 :: 14 :: 15 :: 16 :: 17 :: 18 :: 19 :: 20 :: 21 :: 22 :: 23 :: []) rfl rfl (by kernel_rfl) ⟨D1 (r_fa fd196_3), Dv fun hd E' L' hE hL => r_loadH (i := 3) (q := 0) (β := T_api_State) (γ := T_api_Case) ty194 (look_t (hE _ _ rfl)) (hL 3 _ rfl rfl) rfl, Dm, ?_, D2 r_mul, D1 (r_ci64 Try.underlying3 Try.underlying45), Dv fun hd E' L' hE hL => (r_build (b := ({ (default : T_api_Value) with f_Lo := BitVec.ofInt 64 (w64 (8 * y6.1)) } : T_api_Value)) rfl bu47 zr47 (.cons le_T_api_Value_Lo rfl (look_t (hE _ _ rfl)) rfl (.nil))).as (some_in hz7), Dv fun hd E' L' hE hL => r_build (b := ({ (default : T_api_Value) with f_Lo := 8#64 } : T_api_Value)) rfl bu47 zr47 (.cons le_T_api_Value_Lo rfl (look_u64 8 rfl) rfl (.nil)), Dm, Dm, ?_, Dv fun hd E' L' hE hL => r_ias (k := k3) Try.underlying64 ty3 (look_t (hE _ _ rfl)) (look_t (hE _ _ rfl)) (idx_some hk3), D1 (r_loadp ty3), Dv fun hd E' L' hE hL => (r_build (b := { f_Value := z7, f_Mask := ({ (default : T_api_Value) with f_Lo := 8#64 } : T_api_Value), f_Next := lget ([0, 0, 65535, 3] : List Int) k3 : T_api_Case }) rfl bu198 zr198 (.cons le_T_api_Case_Value rfl (look_t (hE _ _ rfl)) rfl (.cons le_T_api_Case_Mask rfl (look_t (hE _ _ rfl)) rfl (.cons le_T_api_Case_Next rfl (look_t (hE _ _ rfl)) rfl (.nil))))).as (some_in hz8), Dv fun hd E' L' hE hL => r_bsl (r := [z8]) Try.underlying194 ty198 zr198 rfl rfl (.cons (by simp) (look_t (hE _ _ rfl)) (.nil)), ?_, D1 (r_fa fd196_3), ?_, trivial⟩ fun hd => ?_
  ·intro hd E' L' hE hL
   refine Sq.bring 0 (hL 0 _ rfl rfl) ?_
   refine Sq.callO (Lin := [⟨some pp0, .var (y2.2 : T_mcase_Codes)⟩]) (Lr := L'.eraseIdx 0) en49 (C_mcase_Codes_Next hy6) ⟨look_t (hE _ _ rfl), look_int 2, trivial⟩ rfl fun q6 => ?_
   refine Sq.nil ?_
   refine To.back 0 (hL 0 _ rfl rfl) ?_
   exact To.fin (gm []) rfl rfl
  ·intro hd E' L' hE hL
   refine Sq.bring 0 (hL 0 _ rfl rfl) ?_
   refine Sq.callO (Lin := [⟨some pp0, .var (y6.2 : T_mcase_Codes)⟩]) (Lr := L'.eraseIdx 0) en49 (C_mcase_Codes_Next hy7) ⟨look_t (hE _ _ rfl), look_int 4, trivial⟩ rfl fun q7 => ?_
   refine Sq.nil ?_
   refine To.back 0 (hL 0 _ rfl rfl) ?_
   exact To.fin (gm []) rfl rfl
  ·intro hd E' L' hE hL
   refine Sq.app (i := 1) Try.underlying194 ty198 zr198 (bytes := 40) (by kernel_rfl) (look_t (hE _ _ rfl)) (hL 1 _ rfl rfl) (look_t (hE _ _ rfl)) hy8 rfl fun key2 cap1 => ?_
   refine Sq.nil ?_
   exact To.fin (gm [key2, some cap1]) rfl rfl
  ·intro hd E' L' hE hL
   refine Sq.storeH (i := 3) (γ := T_api_Case) (b' := (({ ({ (default : T_api_State) with f_ID := 1, f_Header := 1, f_Select := 4, f_Default := lget ([0, 0, 65535, 3] : List Int) k1 } : T_api_State) with f_Cases := [] } : T_api_State) : T_api_State)) (os' := [(3, slv (hd 15 0) y8.length ((hd 15 1).getD 0))]) ((Lens.id T_api_State).comp le_T_api_State_Cases) ty194 (look_t (hE _ _ rfl)) (look_t (hE _ _ rfl)) slv_one (hL 3 _ rfl rfl) rfl rfl rfl ?_
   refine Sq.nil ?_
   exact To.fin (gm []) rfl rfl
  refine To.eqL (L2 := [⟨some pp0, .var (y7.2 : T_mcase_Codes)⟩, ⟨(hd 15 0), .row 198 (y8 : List T_api_Case) ((hd 15 1).getD 0)⟩, ⟨none, .row 198 (([] : List T_api_Case) : List T_api_Case) 0⟩, ⟨some p1, .varX (({ ({ (default : T_api_State) with f_ID := 1, f_Header := 1, f_Select := 4, f_Default := lget ([0, 0, 65535, 3] : List Int) k1 } : T_api_State) with f_Cases := [] } : T_api_State) : T_api_State) [(3, slv (hd 15 0) y8.length ((hd 15 1).getD 0))]⟩, ⟨none, .row 198 (([] : List T_api_Case) : List T_api_Case) 0⟩]) rfl ?_
  refine Qtl [0, 2, 3, 4, 7, 8, 9, 10, 11, 12, 13, 14, 15, 16, 17, 18, 19, 21, 22, 23, 24, 26, 27, 28, 29, 30, 31, 32, 33, 34, 35, 36, 37, 38, 39, 40] ?_
  obtain rfl:=some_in h
  exact Qmt 0 (hm ((hd 15 0), ((hd 15 1).getD 0)))
 ·have h := cond_f hc hm1
  refine Wp.skip ?_
  obtain rfl:=some_in h
  exact Qmt 0 (hm (key1, 2))
end Go.Proofs.Ytodajdohokmjnaa

namespace Go.Proofs.Ytodajdohokmjnaa
open Go Gv
set_option linter.unusedVariables false
set_option linter.unusedSimpArgs false
set_option maxRecDepth 100000
set_option maxHeartbeats 2000000
theorem C_mcase_Codes_actions {x0 : T_mcase_Codes} {pp0 : Nat} {r : (List T_api_Action) × T_mcase_Codes} (h : L_mcase_Codes_actions x0 = some r) : MeetsO Try.prog 51 [VP.eq (.pointer (some ⟨pp0, 0, none⟩))] [⟨some pp0, .var (x0 : T_mcase_Codes)⟩] (δ := Unit) (fun d => VP.of (r.1)) (fun d => [⟨some pp0, .var (r.2 : T_mcase_Codes)⟩]) := by
 unfold L_mcase_Codes_actions at h
 refine MeetsO.of Try.func51 rfl Try.ntmps51 rfl fun W A => ?_
 refine Qsr ?_
 refine Qv (r_asg (look_nil (α := T_api_Action))) ?_
 refine Qnr ?_
 refine Qbd bu200 zr200 ({ (default : T_api_Operand) with f_Kind := 3 } : T_api_Operand) (Qfl le_T_api_Operand_Kind .nil) ?_
 refine Qal zr200 fun p1 => ?_
 refine Qs0 0 ty200 ?_
 refine Qns ?_
 obtain ⟨z1,hz1,h⟩:=Qbs h
 obtain ⟨z2,hz2,h⟩:=Qbs h
 obtain ⟨z3,hz3,h⟩:=Qbs h
 obtain ⟨z4,hz4,h⟩:=Qbs h
 obtain ⟨z5,hz5,h⟩:=Qbs h
 obtain ⟨z6,hz6,h⟩:=Qbs h
 obtain ⟨z7,hz7,h⟩:=Qbs h
 obtain ⟨z8,hz8,h⟩:=Qbs h
 obtain ⟨z9,hz9,h⟩:=Qbs h
 obtain ⟨z10,hz10,h⟩:=Qbs h
 obtain ⟨z11,hz11,h⟩:=Qbs h
 obtain ⟨z12,hz12,h⟩:=Qbs h
 obtain ⟨z13,hz13,h⟩:=Qbs h
 obtain ⟨y1,hy1,h⟩:=Qbs h
 obtain ⟨z14,hz14,h⟩:=Qbs h
 obtain ⟨y2,hy2,h⟩:=Qbs h
 obtain ⟨z15,hz15,h⟩:=Qbs h
 obtain ⟨z16,hz16,h⟩:=Qbs h
 obtain ⟨z17,hz17,h⟩:=Qbs h
 refine Wp.keep 1 ?_
 refine Qwl [0, 2, 3, 5] ?_
 refine Wp.drawD mixed (Hp 6 [] [] _ :: Hp 7 [] [] _ :: Hp 8 (1 :: []) [] _ :: Hp 9 (2 :: []) [] _ :: Hp 10 [] [] _ :: Hp 11 (4 :: []) [] _ :: Hp 12 [] (0 :: []) _ :: Hp 13 (6 :: []) [] _ :: Hp 14 (7 :: []) [] _ :: Hp 15 (5 :: 8 :: []) [] _ :: Hp 16 [] [] _ :: Hp 17 (10 :: []) [] _ :: Hp 18 [] (0 :: []) _ :: Hp 19 (12 :: []) [] _ :: Hp 20 [] [] _ :: Hp 21 (14 :: []) [] _ :: Hp 22 (13 :: 15 :: []) [] _ :: Hp 23 (11 :: 16 :: []) [] _ :: Hp 24 [] [] _ :: Hp 25 [] [] _ :: Hp 26 (18 :: 19 :: []) [] _ :: Hp 27 [] [] _ :: Hp 28 [] (0 :: []) _ :: Hp 29 (22 :: []) [] _ :: Hp 30 [] [] _ :: Hp 31 (24 :: []) [] _ :: Hp 32 (21 :: 23 :: 25 :: []) [] _ :: Hp 33 (20 :: 26 :: []) [] _ :: Hp 34 [] [] _ :: ⟨some 35, (28 :: []), (1 :: []), (1 :: []), fun _ => VP.of (y1.1), fun hd _ => ⟨some pp0, .var (y1.2 : T_mcase_Codes)⟩⟩ :: Hp 36 (29 :: []) [] _ :: Hp 37 (30 :: []) [] _ :: Hp 38 [] [] _ :: ⟨some 39, (29 :: 32 :: []), (1 :: []), (1 :: []), fun _ => VP.of (y2.1), fun hd _ => ⟨some pp0, .var (y2.2 : T_mcase_Codes)⟩⟩ :: Hp 40 (33 :: []) [] _ :: Hp 41 (34 :: []) [] _ :: Hp 42 (35 :: []) [] _ :: Hp 43 (36 :: []) [] _ :: Hp 44 (31 :: 37 :: []) [] _ :: Hp 45 (38 :: []) [] _ :: ⟨some 46, (0 :: 3 :: 9 :: 17 :: 27 :: 39 :: []), (2 :: []), (2 :: []), fun hd => VP.eq (slv (hd 40 0) [z1, z2, z5, z8, z13, z17].length 6), fun hd _ => ⟨(hd 40 0), .row 168 ([z1, z2, z5, z8, z13, z17] : List T_api_Action) 6⟩⟩ :: ⟨some 4, (40 :: []), [], [], fun hd => VP.eq (slv (hd 40 0) [z1, z2, z5, z8, z13, z17].length 6), fun _ _ => ⟨none, .dead⟩⟩ :: []) _ (0 :: 2 :: 3 :: 5 :: []) rfl rfl (by kernel_rfl) ⟨Dv fun hd E' L' hE hL => (r_build (b := ({ (default : T_api_Action) with f_ID := 1, f_Name := ByteArray.mk #[110, 111, 112] } : T_api_Action)) rfl bu168 zr168 (.cons le_T_api_Action_ID rfl (look_int 1) rfl (.cons le_T_api_Action_Name rfl (look_str (ByteArray.mk #[110, 111, 112])) rfl (.nil)))).as (some_in hz1), Dv fun hd E' L' hE hL => r_build (b := ({ (default : T_api_Prim) with f_Op := 6 } : T_api_Prim)) rfl bu202 zr202 (.cons le_T_api_Prim_Op rfl (look_int 6) rfl (.nil)), Dv fun hd E' L' hE hL => r_bsl (r := [({ (default : T_api_Prim) with f_Op := 6 } : T_api_Prim)]) Try.underlying166 ty202 zr202 rfl rfl (.cons (by simp) (look_t (hE _ _ rfl)) (.nil)), Dv fun hd E' L' hE hL => (r_build (b := ({ (default : T_api_Action) with f_ID := 2, f_Name := ByteArray.mk #[100, 114, 111, 112], f_Body := [({ (default : T_api_Prim) with f_Op := 6 } : T_api_Prim)] } : T_api_Action)) rfl bu168 zr168 (.cons le_T_api_Action_ID rfl (look_int 2) rfl (.cons le_T_api_Action_Name rfl (look_str (ByteArray.mk #[100, 114, 111, 112])) rfl (.cons le_T_api_Action_Body rfl (look_t (hE _ _ rfl)) rfl (.nil))))).as (some_in hz2), Dv fun hd E' L' hE hL => (r_build (b := { f_Name := ByteArray.mk #[112, 111, 114, 116], f_Bits := 16 : T_api_Param }) rfl bu171 zr171 (.cons le_T_api_Param_Name rfl (look_str (ByteArray.mk #[112, 111, 114, 116])) rfl (.cons le_T_api_Param_Bits rfl (look_int 16) rfl (.nil)))).as (some_in hz3), Dv fun hd E' L' hE hL => r_bsl (r := [z3]) Try.underlying165 ty171 zr171 rfl rfl (.cons (by simp) (look_t (hE _ _ rfl)) (.nil)), Dl0 0 ty200, Dv fun hd E' L' hE hL => (r_build (b := ({ (default : T_api_Prim) with f_Op := 7, f_Src := ({ (default : T_api_Operand) with f_Kind := 3 } : T_api_Operand) } : T_api_Prim)) rfl bu202 zr202 (.cons le_T_api_Prim_Op rfl (look_int 7) rfl (.cons le_T_api_Prim_Src rfl (look_t (hE _ _ rfl)) rfl (.nil)))).as (some_in hz4), Dv fun hd E' L' hE hL => r_bsl (r := [z4]) Try.underlying166 ty202 zr202 rfl rfl (.cons (by simp) (look_t (hE _ _ rfl)) (.nil)), Dv fun hd E' L' hE hL => (r_build (b := ({ (default : T_api_Action) with f_ID := 3, f_Name := ByteArray.mk #[102, 111, 114, 119, 97, 114, 100], f_Params := [z3], f_Body := [z4] } : T_api_Action)) rfl bu168 zr168 (.cons le_T_api_Action_ID rfl (look_int 3) rfl (.cons le_T_api_Action_Name rfl (look_str (ByteArray.mk #[102, 111, 114, 119, 97, 114, 100])) rfl (.cons le_T_api_Action_Params rfl (look_t (hE _ _ rfl)) rfl (.cons le_T_api_Action_Body rfl (look_t (hE _ _ rfl)) rfl (.nil)))))).as (some_in hz5), Dv fun hd E' L' hE hL => r_build (b := { f_Name := ByteArray.mk #[120], f_Bits := 4 : T_api_Param }) rfl bu171 zr171 (.cons le_T_api_Param_Name rfl (look_str (ByteArray.mk #[120])) rfl (.cons le_T_api_Param_Bits rfl (look_int 4) rfl (.nil))), Dv fun hd E' L' hE hL => r_bsl (r := [{ f_Name := ByteArray.mk #[120], f_Bits := 4 : T_api_Param }]) Try.underlying165 ty171 zr171 rfl rfl (.cons (by simp) (look_t (hE _ _ rfl)) (.nil)), Dl0 0 ty200, Dv fun hd E' L' hE hL => (r_build (b := { f_Op := 1, f_Dst := 5, f_Src := ({ (default : T_api_Operand) with f_Kind := 3 } : T_api_Operand) : T_api_Prim }) rfl bu202 zr202 (.cons le_T_api_Prim_Op rfl (look_int 1) rfl (.cons le_T_api_Prim_Dst rfl (look_int 5) rfl (.cons le_T_api_Prim_Src rfl (look_t (hE _ _ rfl)) rfl (.nil))))).as (some_in hz6), Dv fun hd E' L' hE hL => (r_build (b := ({ (default : T_api_Operand) with f_Kind := 2, f_N := 5 } : T_api_Operand)) rfl bu200 zr200 (.cons le_T_api_Operand_Kind rfl (look_int 2) rfl (.cons le_T_api_Operand_N rfl (look_int 5) rfl (.nil)))).as (some_in hz7), Dv fun hd E' L' hE hL => r_build (b := { f_Op := 2, f_Dst := 3, f_Src := z7 : T_api_Prim }) rfl bu202 zr202 (.cons le_T_api_Prim_Op rfl (look_int 2) rfl (.cons le_T_api_Prim_Dst rfl (look_int 3) rfl (.cons le_T_api_Prim_Src rfl (look_t (hE _ _ rfl)) rfl (.nil)))), Dv fun hd E' L' hE hL => r_bsl (r := [z6, { f_Op := 2, f_Dst := 3, f_Src := z7 : T_api_Prim }]) Try.underlying166 ty202 zr202 rfl rfl (.cons (by simp) (look_t (hE _ _ rfl)) (.cons (by simp) (look_t (hE _ _ rfl)) (.nil))), Dv fun hd E' L' hE hL => (r_build (b := ({ (default : T_api_Action) with f_ID := 4, f_Name := ByteArray.mk #[116, 97, 103], f_Params := [{ f_Name := ByteArray.mk #[120], f_Bits := 4 : T_api_Param }], f_Body := [z6, { f_Op := 2, f_Dst := 3, f_Src := z7 : T_api_Prim }] } : T_api_Action)) rfl bu168 zr168 (.cons le_T_api_Action_ID rfl (look_int 4) rfl (.cons le_T_api_Action_Name rfl (look_str (ByteArray.mk #[116, 97, 103])) rfl (.cons le_T_api_Action_Params rfl (look_t (hE _ _ rfl)) rfl (.cons le_T_api_Action_Body rfl (look_t (hE _ _ rfl)) rfl (.nil)))))).as (some_in hz8), Dv fun hd E' L' hE hL => r_build (b := { f_Name := ByteArray.mk #[120], f_Bits := 4 : T_api_Param }) rfl bu171 zr171 (.cons le_T_api_Param_Name rfl (look_str (ByteArray.mk #[120])) rfl (.cons le_T_api_Param_Bits rfl (look_int 4) rfl (.nil))), Dv fun hd E' L' hE hL => r_build (b := { f_Name := ByteArray.mk #[121], f_Bits := 12 : T_api_Param }) rfl bu171 zr171 (.cons le_T_api_Param_Name rfl (look_str (ByteArray.mk #[121])) rfl (.cons le_T_api_Param_Bits rfl (look_int 12) rfl (.nil))), Dv fun hd E' L' hE hL => (r_bsl (r := [{ f_Name := ByteArray.mk #[120], f_Bits := 4 : T_api_Param }, { f_Name := ByteArray.mk #[121], f_Bits := 12 : T_api_Param }]) Try.underlying165 ty171 zr171 rfl rfl (.cons (by simp) (look_t (hE _ _ rfl)) (.cons (by simp) (look_t (hE _ _ rfl)) (.nil)))).as (some_in hz9), Dv fun hd E' L' hE hL => r_build (b := ({ (default : T_api_Prim) with f_Op := 4, f_Dst := 3 } : T_api_Prim)) rfl bu202 zr202 (.cons le_T_api_Prim_Op rfl (look_int 4) rfl (.cons le_T_api_Prim_Dst rfl (look_int 3) rfl (.nil))), Dl0 0 ty200, Dv fun hd E' L' hE hL => (r_build (b := { f_Op := 1, f_Dst := 9, f_Src := ({ (default : T_api_Operand) with f_Kind := 3 } : T_api_Operand) : T_api_Prim }) rfl bu202 zr202 (.cons le_T_api_Prim_Op rfl (look_int 1) rfl (.cons le_T_api_Prim_Dst rfl (look_int 9) rfl (.cons le_T_api_Prim_Src rfl (look_t (hE _ _ rfl)) rfl (.nil))))).as (some_in hz10), Dv fun hd E' L' hE hL => (r_build (b := ({ (default : T_api_Operand) with f_Kind := 3, f_N := 1 } : T_api_Operand)) rfl bu200 zr200 (.cons le_T_api_Operand_Kind rfl (look_int 3) rfl (.cons le_T_api_Operand_N rfl (look_int 1) rfl (.nil)))).as (some_in hz11), Dv fun hd E' L' hE hL => r_build (b := { f_Op := 3, f_Dst := 8, f_Src := z11 : T_api_Prim }) rfl bu202 zr202 (.cons le_T_api_Prim_Op rfl (look_int 3) rfl (.cons le_T_api_Prim_Dst rfl (look_int 8) rfl (.cons le_T_api_Prim_Src rfl (look_t (hE _ _ rfl)) rfl (.nil)))), Dv fun hd E' L' hE hL => (r_bsl (r := [({ (default : T_api_Prim) with f_Op := 4, f_Dst := 3 } : T_api_Prim), z10, { f_Op := 3, f_Dst := 8, f_Src := z11 : T_api_Prim }]) Try.underlying166 ty202 zr202 rfl rfl (.cons (by simp) (look_t (hE _ _ rfl)) (.cons (by simp) (look_t (hE _ _ rfl)) (.cons (by simp) (look_t (hE _ _ rfl)) (.nil))))).as (some_in hz12), Dv fun hd E' L' hE hL => (r_build (b := ({ (default : T_api_Action) with f_ID := 5, f_Name := ByteArray.mk #[119, 114, 97, 112], f_Params := z9, f_Body := z12 } : T_api_Action)) rfl bu168 zr168 (.cons le_T_api_Action_ID rfl (look_int 5) rfl (.cons le_T_api_Action_Name rfl (look_str (ByteArray.mk #[119, 114, 97, 112])) rfl (.cons le_T_api_Action_Params rfl (look_t (hE _ _ rfl)) rfl (.cons le_T_api_Action_Body rfl (look_t (hE _ _ rfl)) rfl (.nil)))))).as (some_in hz13), Dm, ?_, D2 r_add, Dv fun hd E' L' hE hL => (r_build (b := ({ (default : T_api_Prim) with f_Op := 5, f_Dst := w64 (2 + y1.1) } : T_api_Prim)) rfl bu202 zr202 (.cons le_T_api_Prim_Op rfl (look_int 5) rfl (.cons le_T_api_Prim_Dst rfl (look_t (hE _ _ rfl)) rfl (.nil)))).as (some_in hz14), Dm, ?_, D1 (r_ci64 Try.underlying3 Try.underlying45), Dv fun hd E' L' hE hL => (r_build (b := ({ (default : T_api_Value) with f_Lo := BitVec.ofInt 64 y2.1 } : T_api_Value)) rfl bu47 zr47 (.cons le_T_api_Value_Lo rfl (look_t (hE _ _ rfl)) rfl (.nil))).as (some_in hz15), Dv fun hd E' L' hE hL => (r_build (b := ({ (default : T_api_Operand) with f_Kind := 1, f_Value := z15 } : T_api_Operand)) rfl bu200 zr200 (.cons le_T_api_Operand_Kind rfl (look_int 1) rfl (.cons le_T_api_Operand_Value rfl (look_t (hE _ _ rfl)) rfl (.nil)))).as (some_in hz16), Dv fun hd E' L' hE hL => r_build (b := { f_Op := 2, f_Dst := 6, f_Src := z16 : T_api_Prim }) rfl bu202 zr202 (.cons le_T_api_Prim_Op rfl (look_int 2) rfl (.cons le_T_api_Prim_Dst rfl (look_int 6) rfl (.cons le_T_api_Prim_Src rfl (look_t (hE _ _ rfl)) rfl (.nil)))), Dv fun hd E' L' hE hL => r_bsl (r := [z14, { f_Op := 2, f_Dst := 6, f_Src := z16 : T_api_Prim }]) Try.underlying166 ty202 zr202 rfl rfl (.cons (by simp) (look_t (hE _ _ rfl)) (.cons (by simp) (look_t (hE _ _ rfl)) (.nil))), Dv fun hd E' L' hE hL => (r_build (b := ({ (default : T_api_Action) with f_ID := 6, f_Name := ByteArray.mk #[115, 116, 114, 105, 112], f_Body := [z14, { f_Op := 2, f_Dst := 6, f_Src := z16 : T_api_Prim }] } : T_api_Action)) rfl bu168 zr168 (.cons le_T_api_Action_ID rfl (look_int 6) rfl (.cons le_T_api_Action_Name rfl (look_str (ByteArray.mk #[115, 116, 114, 105, 112])) rfl (.cons le_T_api_Action_Body rfl (look_t (hE _ _ rfl)) rfl (.nil))))).as (some_in hz17), ?_, ?_, trivial⟩ fun hd => ?_
 ·intro hd E' L' hE hL
  refine Sq.bring 1 (hL 1 _ rfl rfl) ?_
  refine Sq.callO (Lin := [⟨some pp0, .var (x0 : T_mcase_Codes)⟩]) (Lr := L'.eraseIdx 1) en49 (C_mcase_Codes_Next hy1) ⟨look_t (hE _ _ rfl), look_int 2, trivial⟩ rfl fun q1 => ?_
  refine Sq.nil ?_
  refine To.back 1 (hL 1 _ rfl rfl) ?_
  exact To.fin (gm []) rfl rfl
 ·intro hd E' L' hE hL
  refine Sq.bring 1 (hL 1 _ rfl rfl) ?_
  refine Sq.callO (Lin := [⟨some pp0, .var (y1.2 : T_mcase_Codes)⟩]) (Lr := L'.eraseIdx 1) en49 (C_mcase_Codes_Next hy2) ⟨look_t (hE _ _ rfl), look_int 256, trivial⟩ rfl fun q2 => ?_
  refine Sq.nil ?_
  refine To.back 1 (hL 1 _ rfl rfl) ?_
  exact To.fin (gm []) rfl rfl
 ·intro hd E' L' hE hL
  refine Sq.bslO (α := T_api_Action) (r := [z1, z2, z5, z8, z13, z17]) Try.underlying27 ty168 zr168 rfl rfl (.cons (by simp) (look_t (hE _ _ rfl)) (.cons (by simp) (look_t (hE _ _ rfl)) (.cons (by simp) (look_t (hE _ _ rfl)) (.cons (by simp) (look_t (hE _ _ rfl)) (.cons (by simp) (look_t (hE _ _ rfl)) (.cons (by simp) (look_t (hE _ _ rfl)) (.nil))))))) rfl fun key1 => ?_
  refine Sq.nil ?_
  refine To.place 2 (hL 2 _ rfl rfl) ?_
  exact To.fin (gm [key1]) rfl rfl
 ·intro hd E' L' hE hL
  refine Qv (r_asg (look_t (hE _ _ rfl))) ?_
  refine Sq.nil ?_
  exact To.fin (gm []) rfl rfl
 refine To.eqL (L2 := [⟨some p1, .var (({ (default : T_api_Operand) with f_Kind := 3 } : T_api_Operand) : T_api_Operand)⟩, ⟨some pp0, .var (y2.2 : T_mcase_Codes)⟩, ⟨(hd 40 0), .row 168 ([z1, z2, z5, z8, z13, z17] : List T_api_Action) 6⟩]) rfl ?_
 refine Qtl [0, 2, 3, 4, 5, 6, 7, 8, 9, 10, 11, 12, 13, 14, 15, 16, 17, 18, 19, 20, 21, 22, 23, 24, 25, 26, 27, 28, 29, 30, 31, 32, 33, 34, 35, 36, 37, 38, 39, 40, 41, 42, 43, 44, 45, 46] ?_
 refine To.bring 2 rfl ?_
 refine To.next ?_
 refine Wp.seq ?_
 refine Qsr ?_
 refine Qm ?_
 refine Sq.bring 2 rfl ?_
 obtain ⟨y3,hy3,h⟩:=Qbs h
 refine QcO 1 en54 (C_mcase_Codes_Bool hy3) fun q3 => ?_
 refine Qnx ?_
 obtain ⟨m1,hm1,h⟩:=Qbs h
 refine Qcm (γ:=(Option Nat × Nat)) [0, 2, 3, 48] (fun g1 => [(4, VP.eq (slv g1.1 m1.length g1.2))]) (fun g1 => [(1, ⟨g1.1, .row 168 (m1 : List T_api_Action) g1.2⟩)]) (fun g1 => ?_) (fun hm hc => ?_) fun hm hc => ?_
 ·clear hm1
  refine To.next ?_
  refine Wp.seq ?_
  refine Qsr ?_
  refine Qm ?_
  refine Sq.bring 0 rfl ?_
  obtain ⟨y4,hy4,h⟩:=Qbs h
  refine QcO 1 en54 (C_mcase_Codes_Bool hy4) fun q4 => ?_
  refine Qnx ?_
  obtain ⟨m2,hm2,h⟩:=Qbs h
  refine Qcm (γ:=(Option Nat × Nat)) [0, 2, 3, 48, 53] (fun g2 => [(4, VP.eq (slv g2.1 m2.length g2.2))]) (fun g2 => [(1, ⟨g2.1, .row 168 (m2 : List T_api_Action) g2.2⟩)]) (fun g2 => ?_) (fun hm hc => ?_) fun hm hc => ?_
  ·clear hm2
   refine To.next ?_
   refine Qsr ?_
   refine Qm ?_
   refine Qa ?_
   refine Qnx ?_
   refine Wp.ret ?_
   refine To.freezeL (α := T_api_Action) 1 [2, 4, 57] ⟨rfl, rfl, rfl, trivial⟩ rfl ?_
   refine To.bring 0 rfl ?_
   obtain rfl:=some_in h
   exact Qo1 ()
  ·have h := cond_t hc hm2
   refine Wp.reg ?_
   refine Qm ?_
   obtain ⟨k1,hk1,h⟩:=Qbs h
   refine Qv (r_iaO (i := 1) (k := k1) (xs := (m1 : List T_api_Action)) Try.underlying27 ty168 (look_t rfl) (look_int 4) rfl (idx_some hk1)) ?_
   refine Q1 (r_fa fd168_4) ?_
   obtain ⟨z18,hz18,h⟩:=Qbs h
   refine Sq.storeR (i := 1) (k := k1) ((Lens.id T_api_Action).comp le_T_api_Action_Restriction) (v := (ByteArray.mk #[120, 32, 60, 32, 121, 32, 124, 124, 32, 120, 32, 61, 61, 32, 49, 53] : ByteArray)) (r := (z18 : List T_api_Action)) ty9 (look_t rfl) (look_str (ByteArray.mk #[120, 32, 60, 32, 121, 32, 124, 124, 32, 120, 32, 61, 61, 32, 49, 53])) rfl (idx_some hk1).1 rfl (some_in hz18) ?_
   refine Sq.relen (m := z18.length) 4 rfl (lset_len (some_in hz18)) ?_
   refine Sq.relen (m := z18.length) 54 rfl (lset_len (some_in hz18)) ?_
   refine Sq.nil ?_
   obtain rfl:=some_in h
   exact Qmt 0 (hm (g1.1, g1.2))
  ·have h := cond_f hc hm2
   refine Wp.skip ?_
   obtain rfl:=some_in h
   exact Qmt 0 (hm (g1.1, g1.2))
 ·have h := cond_t hc hm1
  refine Wp.reg ?_
  refine Qm ?_
  obtain ⟨k2,hk2,h⟩:=Qbs h
  refine Qv (r_iaO (i := 1) (k := k2) (xs := ([z1, z2, z5, z8, z13, z17] : List T_api_Action)) Try.underlying27 ty168 (look_t rfl) (look_int 2) rfl (idx_some hk2)) ?_
  refine Q1 (r_fa fd168_4) ?_
  obtain ⟨z19,hz19,h⟩:=Qbs h
  refine Sq.storeR (i := 1) (k := k2) ((Lens.id T_api_Action).comp le_T_api_Action_Restriction) (v := (ByteArray.mk #[112, 111, 114, 116, 32, 33, 61, 32, 48] : ByteArray)) (r := (z19 : List T_api_Action)) ty9 (look_t rfl) (look_str (ByteArray.mk #[112, 111, 114, 116, 32, 33, 61, 32, 48])) rfl (idx_some hk2).1 rfl (some_in hz19) ?_
  refine Sq.relen (m := z19.length) 4 rfl (lset_len (some_in hz19)) ?_
  refine Sq.relen (m := z19.length) 46 rfl (lset_len (some_in hz19)) ?_
  refine Sq.relen (m := z19.length) 49 rfl (lset_len (some_in hz19)) ?_
  refine Sq.nil ?_
  obtain rfl:=some_in h
  exact Qmt 0 (hm ((hd 40 0), 6))
 ·have h := cond_f hc hm1
  refine Wp.skip ?_
  obtain rfl:=some_in h
  exact Qmt 0 (hm ((hd 40 0), 6))
end Go.Proofs.Ytodajdohokmjnaa

