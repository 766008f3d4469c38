/-
  Each function meets its functional program. Conditions: none.
-/
import Derived.Test.YtodajdohokmjnaaMd
namespace Go.Proofs.Ytodajdohokmjnaa
open Go Gv
set_option linter.unusedVariables false
set_option linter.unusedSimpArgs false
set_option maxRecDepth 100000
set_option maxHeartbeats 2000000
theorem C_mcase_New {x0 : List (BitVec 8)} {x1 : Int}  {r : T_mcase_Codes} (h : L_mcase_New x0 x1 = some r) : MeetsO Try.prog 12 [VP.of (x0), VP.of (x1)] [] (δ := Nat) (fun d => VP.eq (.pointer (some ⟨d, 0, none⟩))) (fun d => [⟨some d, .var (r : T_mcase_Codes)⟩]) := by
 unfold L_mcase_New at h
 refine MeetsO.of Try.func12 rfl Try.ntmps12 rfl fun W A => ?_
 refine Qsr ?_
 refine Qv (r_asg (look_e (.pointer none))) ?_
 refine Qnr ?_
 refine Qm ?_
 refine Qm ?_
 refine Q1 (r_len Try.underlying22) ?_
 refine Qm ?_
 refine Q2 r_min ?_
 obtain ⟨y1,hy1,h⟩:=Qbs h
 refine Qv (r_slice Try.underlying22 ty5 (look_t rfl) .none (.some (look_t rfl)) hy1) ?_
 refine Qbd bu120 zr120 ({ (default : T_mcase_Codes) with f_l := y1 } : T_mcase_Codes) (Qfl le_T_mcase_Codes_l .nil) ?_
 refine Qbx fun p1 => ?_
 refine Qa ?_
 refine Qnx ?_
 refine Wp.ret ?_
 refine To.bring 0 rfl ?_
 obtain rfl:=some_in h
 exact Qo1 p1
theorem C_mcase_Codes_Left {x0 : T_mcase_Codes} {pp0 : Nat} {r : Bool} (h : L_mcase_Codes_Left x0 = some r) : MeetsO Try.prog 76 [VP.eq (.pointer (some ⟨pp0, 0, none⟩))] [⟨some pp0, .var (x0 : T_mcase_Codes)⟩] (δ := Unit) (fun d => VP.of (r)) (fun d => [⟨some pp0, .var (x0 : T_mcase_Codes)⟩]) := by
 unfold L_mcase_Codes_Left at h
 refine MeetsO.of Try.func76 rfl Try.ntmps76 rfl fun W A => ?_
 refine Qsr ?_
 refine Qa ?_
 refine Qns ?_
 refine Wp.draw mixed 10 [some 3, some 4, some 5, some 6, some 7, some 8, some 9, some 10, some 11, some 12] [[], [0], [1], [2], [], [4], [5], [6], [7], [3, 8]] [.val _, .val _, .val _, .val _, .val _, .val _, .val _, .val _, .val _, .val _] [false, false, false, false, false, false, false, false, false, false] (by kernel_rfl) rfl rfl rfl (fun ps1 => ⟨Hm, H1 r_nck, H1 (r_fa fd120_1), Hld 0 le_T_mcase_Codes_at ty3, Hm, H1 r_nck, H1 (r_fa fd120_0), Hld 0 le_T_mcase_Codes_l ty22, H1 (r_len Try.underlying22), H2 r_lss, trivial⟩) fun ps1 => ?_
 refine Qa ?_
 refine Qnx ?_
 refine Wp.ret ?_
 refine To.bring 0 rfl ?_
 obtain rfl:=some_in h
 exact Qo1 ()
theorem Cf0_mcase_Codes_Left {x0 : T_mcase_Codes}  {r : Bool} (h : Lf0_mcase_Codes_Left x0 = some r) : Meets Try.prog 76 [VP.ptr x0] (VP.of (r)) := by
 unfold Lf0_mcase_Codes_Left at h
 refine Meets.of Try.func76 rfl Try.ntmps76 rfl fun W A => ?_
 refine Qsr ?_
 refine Qa ?_
 refine Qns ?_
 refine Wp.draw mixed 10 [some 3, some 4, some 5, some 6, some 7, some 8, some 9, some 10, some 11, some 12] [[], [0], [1], [2], [], [4], [5], [6], [7], [3, 8]] [.val _, .val _, .val _, .val _, .val _, .val _, .val _, .val _, .val _, .val _] [false, false, false, false, false, false, false, false, false, false] (by kernel_rfl) rfl rfl rfl (fun ps1 => ⟨Hm, H1 r_nckp, Hfp le_T_mcase_Codes_at fd120_1, H1 (r_loadp ty3), Hm, H1 r_nckp, Hfp le_T_mcase_Codes_l fd120_0, H1 (r_loadp ty22), H1 (r_len Try.underlying22), H2 r_lss, trivial⟩) fun ps1 => ?_
 refine Qa ?_
 refine Qnx ?_
 refine Wp.ret ?_
 obtain rfl:=some_in h
 exact Qe1
theorem C_mcase_Mod {x0 : Int} {x1 : Int}  {r : Int} (h : L_mcase_Mod x0 x1 = some r) : Meets Try.prog 22 [VP.of (x0), VP.of (x1)] (VP.of (r)) := by
 unfold L_mcase_Mod at h
 refine Meets.of Try.func22 rfl Try.ntmps22 rfl fun W A => ?_
 refine Qsr ?_
 refine Qa ?_
 refine Qns ?_
 refine Qsr ?_
 refine Qm ?_
 refine Q2 r_lss ?_
 refine Qnx ?_
 refine Qcd h (fun h=>?_) fun h=>?_
 ·refine Qsr ?_
  refine Qa ?_
  refine Qnx ?_
  refine Wp.ret ?_
  refine To.ret ?_
  obtain rfl:=some_in h
  exact Qe1
 ·refine Qkn ?_
  refine Qsr ?_
  refine Qm ?_
  refine Qm ?_
  obtain ⟨y1,hy1,h⟩:=Qbs h
  refine Qv (r_rem (look_t rfl) (look_t rfl) (modM_some hy1)) ?_
  refine Qm ?_
  refine Q2 r_add ?_
  refine Qm ?_
  obtain ⟨y2,hy2,h⟩:=Qbs h
  refine Qv (r_rem (look_t rfl) (look_t rfl) (modM_some hy2)) ?_
  refine Qa ?_
  refine Qnx ?_
  refine Wp.ret ?_
  obtain rfl:=some_in h
  exact Qe1
theorem C_mcase_bitsOf {x0 : T_api_Schema} {x1 : Int}  {r : Int} (h : L_mcase_bitsOf x0 x1 = some r) : Meets Try.prog 112 [VP.of (x0), VP.of (x1)] (VP.of (r)) := by
 unfold L_mcase_bitsOf at h
 refine Meets.of Try.func112 rfl Try.ntmps112 rfl fun W A => ?_
 refine Qsr ?_
 refine Qbx fun p1 => ?_
 refine Qa ?_
 refine Qns ?_
 refine Qsr ?_
 refine Q1 (r_fa fd33_0) ?_
 refine Qld 0 le_T_api_Schema_Fields ty24 ?_
 refine Q1 (r_len Try.underlying24) ?_
 refine Qm ?_
 refine Qnx ?_
 refine Wp.block ?_
 obtain ⟨e1,hl,h⟩:=Qbs h
 refine Qlp (γ:=Unit) (δ:=Unit) hl [0, 1, 2, 8, 9] (fun s1 g1 => [(4, VP.of (0 : Int)), (10, VP.of (s1))]) (fun s1 g1 => []) (fun q1 => Sum.elim (fun q1 => Exit.exit 0) (fun q1 => Exit.ret) q1) (fun q1 g1 => Sum.elim (fun q1 => [(4, VP.of (0 : Int)), (10, VP.of (q1.1)), (11, VP.of (q1.2))]) (fun q1 => [(4, VP.of (q1.1)), (10, VP.of (q1.2.1)), (11, VP.of (q1.2.2.1)), (17, VP.of (q1.2.2.2))]) q1) (fun q1 g1 => Sum.elim (fun q1 => []) (fun q1 => []) q1) () (fun s1 r h g1 => ?_) fun g1 => ?_
 ·clear hl
  refine Qsr ?_
  refine Q2 r_lss ?_
  refine Qns ?_
  refine Qcd h (fun h=>?_) fun h=>?_
  ·refine Qkn ?_
   refine Wp.seq ?_
   refine Wp.block ?_
   refine Qsr ?_
   obtain ⟨k1,hk1,h⟩:=Qbs h
   refine Qix hk1 Try.underlying24 ty123 ?_
   refine Q1 (r_loadp ty123) ?_
   refine Qal zr123 fun p2 => ?_
   refine Qs0 0 ty123 ?_
   refine Qnr ?_
   refine Q1 (r_fa fd123_0) ?_
   refine Qld 0 le_T_api_Field_ID ty3 ?_
   refine Qm ?_
   refine Q2 r_eql ?_
   refine Qnx ?_
   refine Qcd h (fun h=>?_) fun h=>?_
   ·refine Qsr ?_
    refine Q1 (r_fa fd123_2) ?_
    refine Qld 0 le_T_api_Field_Bits ty3 ?_
    refine Qa ?_
    refine Qnx ?_
    refine Wp.ret ?_
    refine To.bret ?_
    refine To.ret ?_
    obtain rfl:=some_in h
    exact Qlv () 1
   ·refine Wp.skip ?_
    refine To.bnorm ?_
    refine To.next ?_
    refine Wp.reg ?_
    refine Q2 r_add ?_
    refine Qm ?_
    refine Sq.nil ?_
    obtain rfl:=some_in h
    exact Qrd () 1
  ·refine Wp.exit ?_
   refine To.exit ?_
   obtain rfl:=some_in h
   exact Qlv () 0
 ·clear hl
  rcases e1 with e1 | e1
  ·simp only [Sum.elim_inl] at h
   refine To.bexit ?_
   refine To.next ?_
   refine Qsr ?_
   refine Qa ?_
   refine Qnx ?_
   refine Wp.ret ?_
   obtain rfl:=some_in h
   exact Qe1
  ·simp only [Sum.elim_inr] at h
   refine To.bret ?_
   refine To.ret ?_
   obtain rfl:=some_in h
   exact Qe1
theorem C_mcase_Low {x0 : T_api_Value} {x1 : Int}  {r : T_api_Value} (h : L_mcase_Low x0 x1 = some r) : Meets Try.prog 79 [VP.of (x0), VP.of (x1)] (VP.of (r)) := by
 unfold L_mcase_Low at h
 refine Meets.of Try.func79 rfl Try.ntmps79 rfl fun W A => ?_
 refine Qsr ?_
 refine Qbx fun p1 => ?_
 refine Qal zr47 fun p2 => ?_
 refine Qns ?_
 refine Wp.block ?_
 refine Qsr ?_
 refine Qm ?_
 refine Q2 r_geq ?_
 refine Qa ?_
 refine Qnx ?_
 refine Qcd h (fun h=>?_) fun h=>?_
 ·refine Qsr ?_
  refine Ql0 1 ty47 ?_
  refine Qs0 0 ty47 ?_
  refine Qnx ?_
  refine Wp.ret ?_
  refine To.bret ?_
  refine To.ret ?_
  obtain rfl:=some_in h
  exact To.end1 rfl (Qrc 0 ty47)
 ·refine Qsr ?_
  refine Qm ?_
  refine Q2 r_geq ?_
  refine Qa ?_
  refine Qnx ?_
  refine Qcd h (fun h=>?_) fun h=>?_
  ·refine Qsr ?_
   refine Q1 (r_fa fd47_0) ?_
   refine Qld 1 le_T_api_Value_Hi ty45 ?_
   refine Qm ?_
   refine Q2 r_sub ?_
   refine Q1 (r_ci64 Try.underlying3 Try.underlying173) ?_
   refine Qv (r_shl64 (look_u64 1 rfl) (look_t rfl)) ?_
   refine Qv (r_sub64 (look_t rfl) (look_u64 1 rfl)) ?_
   obtain ⟨z1,hz1,h⟩:=Qbs h
   refine Qn hz1 (r_and64 (look_t rfl) (look_t rfl)) ?_
   refine Q1 (r_fa fd47_1) ?_
   refine Qld 1 le_T_api_Value_Lo ty45 ?_
   refine Qbd bu47 zr47 { f_Hi := z1, f_Lo := x0.f_Lo : T_api_Value } (Qfl le_T_api_Value_Hi (Qfl le_T_api_Value_Lo .nil)) ?_
   refine Qs0 0 ty47 ?_
   refine Qnx ?_
   refine Wp.ret ?_
   refine To.bret ?_
   refine To.ret ?_
   obtain rfl:=some_in h
   exact To.end1 rfl (Qrc 0 ty47)
  ·refine Qsr ?_
   refine Qm ?_
   refine Q2 r_leq ?_
   refine Qa ?_
   refine Qnx ?_
   refine Qcd h (fun h=>?_) fun h=>?_
   ·refine Qsr ?_
    refine Qbd bu47 zr47 (default : T_api_Value) .nil ?_
    refine Qs0 0 ty47 ?_
    refine Qnx ?_
    refine Wp.ret ?_
    refine To.bret ?_
    refine To.ret ?_
    obtain rfl:=some_in h
    exact To.end1 rfl (Qrc 0 ty47)
   ·refine Wp.skip ?_
    refine To.bnorm ?_
    refine To.next ?_
    refine Qsr ?_
    refine Q1 (r_fa fd47_1) ?_
    refine Qld 1 le_T_api_Value_Lo ty45 ?_
    refine Qm ?_
    refine Q1 (r_ci64 Try.underlying3 Try.underlying173) ?_
    refine Qv (r_shl64 (look_u64 1 rfl) (look_t rfl)) ?_
    refine Qv (r_sub64 (look_t rfl) (look_u64 1 rfl)) ?_
    refine Q2 r_and64 ?_
    obtain ⟨z2,hz2,h⟩:=Qbs h
    refine Qn hz2 (r_build (b := ({ (default : T_api_Value) with f_Lo := x0.f_Lo &&& (((1#64) <<< (BitVec.ofInt 64 x1).toNat) - (1#64)) } : T_api_Value)) rfl bu47 zr47 (.cons le_T_api_Value_Lo rfl (look_t rfl) rfl (.nil))) ?_
    refine Qs0 0 ty47 ?_
    refine Qnx ?_
    refine Wp.ret ?_
    obtain rfl:=some_in h
    exact To.end1 rfl (Qrc 0 ty47)
theorem C_mcase_mask {x0 : Int} {x1 : Int}  {r : T_api_Value} (h : L_mcase_mask x0 x1 = some r) : Meets Try.prog 113 [VP.of (x0), VP.of (x1)] (VP.of (r)) := by
 unfold L_mcase_mask at h
 refine Meets.of Try.func113 rfl Try.ntmps113 rfl fun W A => ?_
 refine Qsr ?_
 refine Qal zr47 fun p1 => ?_
 refine Qnr ?_
 refine Qm ?_
 refine Q1 (r_ci64 Try.underlying3 Try.underlying173) ?_
 refine Qv (r_shl64 (look_u64 1 rfl) (look_t rfl)) ?_
 refine Qv (r_sub64 (look_t rfl) (look_u64 1 rfl)) ?_
 refine Qm ?_
 refine Qm ?_
 refine Q2 r_sub ?_
 refine Q1 (r_ci64 Try.underlying3 Try.underlying173) ?_
 refine Qv (r_shl64 (look_u64 1 rfl) (look_t rfl)) ?_
 refine Qv (r_sub64 (look_t rfl) (look_u64 1 rfl)) ?_
 obtain ⟨z1,hz1,h⟩:=Qbs h
 refine Qn hz1 (r_sub64 (look_t rfl) (look_t rfl)) ?_
 refine Qbd bu47 zr47 ({ (default : T_api_Value) with f_Lo := z1 } : T_api_Value) (Qfl le_T_api_Value_Lo .nil) ?_
 refine Qs0 0 ty47 ?_
 refine Qnx ?_
 refine Wp.ret ?_
 obtain rfl:=some_in h
 exact To.end1 rfl (Qrc 0 ty47)
theorem C_mcase_ActionIn {x0 : T_api_Schema} {x1 : Int}  {r : T_api_Action} (h : L_mcase_ActionIn x0 x1 = some r) : Meets Try.prog 78 [VP.of (x0), VP.of (x1)] (VP.of (r)) := by
 unfold L_mcase_ActionIn at h
 refine Meets.of Try.func78 rfl Try.ntmps78 rfl fun W A => ?_
 refine Qsr ?_
 refine Qbx fun p1 => ?_
 refine Qal zr168 fun p2 => ?_
 refine Qns ?_
 refine Qsr ?_
 refine Q1 (r_fa fd33_3) ?_
 refine Qld 1 le_T_api_Schema_Actions ty27 ?_
 refine Q1 (r_len Try.underlying27) ?_
 refine Qm ?_
 refine Qnx ?_
 refine Wp.block ?_
 obtain ⟨e1,hl,h⟩:=Qbs h
 refine Qlp (γ:=Unit) (δ:=Unit) hl [0, 1, 2, 4, 8, 9] (fun s1 g1 => [(10, VP.of (s1))]) (fun s1 g1 => []) (fun q1 => Sum.elim (fun q1 => Exit.exit 0) (fun q1 => Exit.ret) q1) (fun q1 g1 => Sum.elim (fun q1 => [(10, VP.of (q1.1)), (11, VP.of (q1.2))]) (fun q1 => [(10, VP.of (q1.1)), (11, VP.of (q1.2.1)), (17, VP.of (q1.2.2.1))]) q1) (fun q1 g1 => Sum.elim (fun q1 => []) (fun q1 => [(0, ⟨some p2, .var (q1.2.2.2 : T_api_Action)⟩)]) q1) () (fun s1 r h g1 => ?_) fun g1 => ?_
 ·clear hl
  refine Qsr ?_
  refine Q2 r_lss ?_
  refine Qns ?_
  refine Qcd h (fun h=>?_) fun h=>?_
  ·refine Qkn ?_
   refine Wp.seq ?_
   refine Wp.block ?_
   refine Qsr ?_
   obtain ⟨k1,hk1,h⟩:=Qbs h
   refine Qix hk1 Try.underlying27 ty168 ?_
   refine Q1 (r_loadp ty168) ?_
   refine Qal zr168 fun p3 => ?_
   refine Qs0 0 ty168 ?_
   refine Qnr ?_
   refine Q1 (r_fa fd168_0) ?_
   refine Qld 0 le_T_api_Action_ID ty3 ?_
   refine Qm ?_
   refine Q2 r_eql ?_
   refine Qnx ?_
   refine Qcd h (fun h=>?_) fun h=>?_
   ·refine Qsr ?_
    refine Ql0 0 ty168 ?_
    refine Qs0 1 ty168 ?_
    refine Qnx ?_
    refine Wp.ret ?_
    refine To.bret ?_
    refine To.ret ?_
    obtain rfl:=some_in h
    exact Qlv () 1
   ·refine Wp.skip ?_
    refine To.bnorm ?_
    refine To.next ?_
    refine Wp.reg ?_
    refine Q2 r_add ?_
    refine Qm ?_
    refine Sq.nil ?_
    obtain rfl:=some_in h
    exact Qrd () 1
  ·refine Wp.exit ?_
   refine To.exit ?_
   obtain rfl:=some_in h
   exact Qlv () 0
 ·clear hl
  rcases e1 with e1 | e1
  ·simp only [Sum.elim_inl] at h
   refine To.bexit ?_
   refine To.next ?_
   refine Qsr ?_
   refine Qbd bu168 zr168 (default : T_api_Action) .nil ?_
   refine Qs0 0 ty168 ?_
   refine Qnx ?_
   refine Wp.ret ?_
   obtain rfl:=some_in h
   exact To.end1 rfl (Qrc 0 ty168)
  ·simp only [Sum.elim_inr] at h
   refine To.bret ?_
   refine To.ret ?_
   obtain rfl:=some_in h
   exact To.end1 rfl (Qrc 0 ty168)
theorem C_ordered_List_find_fn1 {x0 : T_api_Installed} {x1 : Int}  {r : Bool} (h : L_ordered_List_find_fn1 x0 x1 = some r) : Meets Try.prog 118 [VP.of (x0), VP.ptr x1] (VP.of (r)) := by
 unfold L_ordered_List_find_fn1 at h
 refine Meets.of Try.func118 rfl Try.ntmps118 rfl fun W A => ?_
 refine Qsr ?_
 refine Qbx fun p1 => ?_
 refine Qa ?_
 refine Qnr ?_
 refine Q1 (r_fa fd92_1) ?_
 refine Qld 0 le_T_api_Installed_Number ty3 ?_
 refine Q1 (r_loadp ty3) ?_
 refine Q2 r_eql ?_
 refine Qa ?_
 refine Qnx ?_
 refine Wp.ret ?_
 obtain rfl:=some_in h
 exact Qe1
theorem C_slices_IndexFunc_api_Installed {x0 : List T_api_Installed} {x1 : T_api_Installed → Option Bool}  {r : Int} (h : L_slices_IndexFunc_api_Installed x0 x1 = some r) : Meets Try.prog 117 [VP.of (x0), VP.fn1 Try.prog x1] (VP.of (r)) := by
 unfold L_slices_IndexFunc_api_Installed at h
 refine Meets.of Try.func117 rfl Try.ntmps117 rfl fun W A => ?_
 refine Qsr ?_
 refine Qa ?_
 refine Qns ?_
 refine Qsr ?_
 refine Qm ?_
 refine Q1 (r_len Try.underlying84) ?_
 refine Qm ?_
 refine Qnx ?_
 refine Wp.block ?_
 obtain ⟨e1,hl,h⟩:=Qbs h
 refine Qlp (γ:=Unit) (δ:=Unit) hl [0, 1, 7] (fun s1 g1 => [(4, VP.of (0 : Int)), (8, VP.of (s1))]) (fun s1 g1 => []) (fun q1 => Sum.elim (fun q1 => Exit.exit 0) (fun q1 => Exit.ret) q1) (fun q1 g1 => Sum.elim (fun q1 => [(4, VP.of (0 : Int)), (8, VP.of (q1.1)), (9, VP.of (q1.2))]) (fun q1 => [(4, VP.of (q1.1)), (5, VP.of (q1.2.1)), (8, VP.of (q1.2.2.1)), (9, VP.of (q1.2.2.2.1)), (16, VP.of (q1.2.2.2.2))]) q1) (fun q1 g1 => Sum.elim (fun q1 => []) (fun q1 => []) q1) () (fun s1 r h g1 => ?_) fun g1 => ?_
 ·clear hl
  refine Qsr ?_
  refine Q2 r_lss ?_
  refine Qns ?_
  refine Qcd h (fun h=>?_) fun h=>?_
  ·refine Qkn ?_
   refine Wp.seq ?_
   refine Wp.block ?_
   refine Qsr ?_
   refine Qm ?_
   refine Qa ?_
   refine Qnr ?_
   refine Qm ?_
   refine Qm ?_
   refine Qm ?_
   obtain ⟨k1,hk1,h⟩:=Qbs h
   refine Qix hk1 Try.underlying84 ty92 ?_
   refine Q1 (r_loadp ty92) ?_
   obtain ⟨y1,hy1,h⟩:=Qbs h
   refine Qv (r_callF1 (look_t rfl) (look_t rfl) hy1) ?_
   refine Qnx ?_
   refine Qcd h (fun h=>?_) fun h=>?_
   ·refine Qsr ?_
    refine Qm ?_
    refine Qa ?_
    refine Qnx ?_
    refine Wp.ret ?_
    refine To.bret ?_
    refine To.ret ?_
    obtain rfl:=some_in h
    exact Qlv () 0
   ·refine Wp.skip ?_
    refine To.bnorm ?_
    refine To.next ?_
    refine Wp.reg ?_
    refine Q2 r_add ?_
    refine Qm ?_
    refine Sq.nil ?_
    obtain rfl:=some_in h
    exact Qrd () 0
  ·refine Wp.exit ?_
   refine To.exit ?_
   obtain rfl:=some_in h
   exact Qlv () 0
 ·clear hl
  rcases e1 with e1 | e1
  ·simp only [Sum.elim_inl] at h
   refine To.bexit ?_
   refine To.next ?_
   refine Qsr ?_
   refine Qa ?_
   refine Qnx ?_
   refine Wp.ret ?_
   obtain rfl:=some_in h
   exact Qe1
  ·simp only [Sum.elim_inr] at h
   refine To.bret ?_
   refine To.ret ?_
   obtain rfl:=some_in h
   exact Qe1
theorem C_slices_BinarySearchFunc_api_Installed {x0 : List T_api_Installed} {x1 : T_api_Installed} {x2 : T_api_Installed → T_api_Installed → Option Int}  {r : Int × Bool} (h : L_slices_BinarySearchFunc_api_Installed x0 x1 x2 = some r) : Meets Try.prog 84 [VP.of (x0), VP.of (x1), VP.fn2 Try.prog x2] (VP.tup [VP.of (r.1), VP.of (r.2)]) := by
 unfold L_slices_BinarySearchFunc_api_Installed at h
 refine Meets.of Try.func84 rfl Try.ntmps84 rfl fun W A => ?_
 refine Qsr ?_
 refine Qbx fun p1 => ?_
 refine Qa ?_
 refine Qa ?_
 refine Qnr ?_
 refine Qm ?_
 refine Q1 (r_len Try.underlying84) ?_
 refine Qa ?_
 refine Qnr ?_
 refine Qm ?_
 refine Qa ?_
 refine Qa ?_
 refine Qns ?_
 refine Wp.block ?_
 obtain ⟨e1,hl,h⟩:=Qbs h
 refine Qlp (γ:=Unit) (δ:=Unit) hl [0, 1, 2, 4, 6, 7, 8] (fun s1 g1 => [(9, VP.of (s1.1)), (10, VP.of (s1.2))]) (fun s1 g1 => []) (fun q1 => Exit.exit 0) (fun q1 g1 => [(9, VP.of (q1.1)), (10, VP.of (q1.2.1)), (17, VP.of (q1.2.2))]) (fun q1 g1 => []) () (fun s1 r h g1 => ?_) fun g1 => ?_
 ·clear hl
  refine Wp.seq ?_
  refine Qsr ?_
  refine Qm ?_
  refine Qm ?_
  refine Q2 r_lss ?_
  refine Qnx ?_
  refine Qcd h (fun h=>?_) fun h=>?_
  ·refine Qkn ?_
   refine Wp.block ?_
   refine Qsr ?_
   refine Qm ?_
   refine Qm ?_
   refine Q2 r_add ?_
   refine Q1 (r_ci64 Try.underlying3 Try.underlying173) ?_
   refine Qv (r_shr64 (look_t rfl) (look_u64 1 rfl)) ?_
   refine Q1 (r_c64i Try.underlying173 Try.underlying3) ?_
   refine Qa ?_
   refine Qns ?_
   obtain ⟨k1,hk1,h⟩:=Qbs h
   obtain ⟨y1,hy1,h⟩:=Qbs h
   refine Wp.draw mixed 8 [some 24, some 25, some 26, some 27, some 28, some 29, some 30, some 31] [[], [], [], [1, 2], [3], [], [0, 4, 5], [6]] [.val _, .val _, .val _, .val _, .val _, .val _, .val _, .val _] [false, false, false, false, false, false, false, false] (by kernel_rfl) rfl rfl rfl (fun ps1 => ⟨Hm, Hm, Hm, Hix hk1 Try.underlying84 ty92, H1 (r_loadp ty92), Hl0 0 ty92, Hv fun L' hL => r_callF2 (look_t rfl) (look_t rfl) (look_t rfl) hy1, H2 r_lss, trivial⟩) fun ps1 => ?_
   refine Qnx ?_
   obtain ⟨m1,hm1,h⟩:=Qbs h
   refine Qcm (γ:=Unit) [0, 1, 2, 4, 6, 7, 8, 11, 17, 31] (fun g2 => [(9, VP.of (m1.1)), (10, VP.of (m1.2))]) (fun g2 => []) (fun g2 => ?_) (fun hm hc => ?_) fun hm hc => ?_
   ·clear hm1
    refine To.bnorm ?_
    obtain rfl:=some_in h
    exact Qrd () 0
   ·have h := cond_t hc hm1
    refine Wp.reg ?_
    refine Qm ?_
    obtain ⟨z1,hz1,h⟩:=Qbs h
    refine Qn hz1 (r_add (look_t rfl) (look_int 1)) ?_
    refine Qa ?_
    refine Sq.nil ?_
    obtain rfl:=some_in h
    exact Qmt 0 (hm ())
   ·have h := cond_f hc hm1
    refine Wp.reg ?_
    refine Qm ?_
    refine Qa ?_
    refine Sq.nil ?_
    obtain rfl:=some_in h
    exact Qmt 0 (hm ())
  ·refine Wp.exit ?_
   refine To.exit ?_
   obtain rfl:=some_in h
   exact Qlv () 0
 ·clear hl
  refine To.bexit ?_
  refine To.next ?_
  refine Wp.seq ?_
  refine Qwl [0, 1, 2, 4, 7, 8, 9, 10, 17] ?_
  obtain ⟨k2,hk2,h⟩:=Qbs h
  obtain ⟨y2,hy2,h⟩:=Qbs h
  refine Wp.draw mixed 15 [some 35, some 36, some 37, some 38, some 39, some 40, some 41, some 42, some 43, some 44, some 45, some 46, some 47, some 48, some 6] [[], [], [], [1, 2], [3], [4], [4], [4], [4, 6, 7], [4, 8], [4], [4, 5, 9, 10], [4, 11], [4, 12], [0]] [.val _, .val _, .val _, .val _, .val _, .val _, .val _, .val _, .val _, .val _, .val _, .val _, .val _, .val _, .val _] [false, false, false, false, false, false, false, false, false, false, false, false, false, false, false] (by kernel_rfl) rfl rfl rfl (fun ps2 => ⟨Hm, Hm, Hm, H2 r_lss, Hm, Hg fun L' hL => fun hb => r_move (look_t rfl), Hg fun L' hL => fun hb => r_move (look_t rfl), Hg fun L' hL => fun hb => r_move (look_t rfl), Hg fun L' hL => fun hb => r_ias (k := k2) Try.underlying84 ty92 (look_tc rfl hb) (look_tc rfl hb) (idx_some (condM_some hk2 hb)), Hg fun L' hL => fun hb => r_loadp ty92 (look_tc rfl hb), Hg fun L' hL => fun hb => r_load (i := 0) (Lens.id T_api_Installed) (r := x1) ty92 (look_t rfl) (hL _ _ rfl rfl) rfl rfl, Hg fun L' hL => fun hb => r_callF2 (look_tc rfl hb) (look_tc rfl hb) (look_tc rfl hb) (condM_some hy2 hb), Hg fun L' hL => fun hb => r_eql (look_tc rfl hb) (look_int 0), Hv fun L' hL => r_and (look_t rfl) (look_t rfl) (fun h => h), Ha, trivial⟩) fun ps2 => ?_
  refine Qa ?_
  refine Qnx ?_
  refine Wp.ret ?_
  obtain rfl:=some_in h
  exact Qe2
theorem C_cmp_isNaN_int {x0 : Int}  {r : Bool} (h : L_cmp_isNaN_int x0 = some r) : Meets Try.prog 178 [VP.of (x0)] (VP.of (r)) := by
 unfold L_cmp_isNaN_int at h
 refine Meets.of Try.func178 rfl Try.ntmps178 rfl fun W A => ?_
 refine Qsr ?_
 refine Qa ?_
 refine Qnr ?_
 refine Qm ?_
 refine Qm ?_
 refine Q2 r_neq ?_
 refine Qa ?_
 refine Qnx ?_
 refine Wp.ret ?_
 obtain rfl:=some_in h
 exact Qe1
theorem C_check_TableOf_fn1 {x0 : T_api_Table} {x1 : Int}  {r : Bool} (h : L_check_TableOf_fn1 x0 x1 = some r) : Meets Try.prog 154 [VP.of (x0), VP.ptr x1] (VP.of (r)) := by
 unfold L_check_TableOf_fn1 at h
 refine Meets.of Try.func154 rfl Try.ntmps154 rfl fun W A => ?_
 refine Qsr ?_
 refine Qbx fun p1 => ?_
 refine Qa ?_
 refine Qnr ?_
 refine Q1 (r_fa fd136_0) ?_
 refine Qld 0 le_T_api_Table_ID ty3 ?_
 refine Q1 (r_loadp ty3) ?_
 refine Q2 r_eql ?_
 refine Qa ?_
 refine Qnx ?_
 refine Wp.ret ?_
 obtain rfl:=some_in h
 exact Qe1
theorem C_slices_IndexFunc_api_Table {x0 : List T_api_Table} {x1 : T_api_Table → Option Bool}  {r : Int} (h : L_slices_IndexFunc_api_Table x0 x1 = some r) : Meets Try.prog 153 [VP.of (x0), VP.fn1 Try.prog x1] (VP.of (r)) := by
 unfold L_slices_IndexFunc_api_Table at h
 refine Meets.of Try.func153 rfl Try.ntmps153 rfl fun W A => ?_
 refine Qsr ?_
 refine Qa ?_
 refine Qns ?_
 refine Qsr ?_
 refine Qm ?_
 refine Q1 (r_len Try.underlying28) ?_
 refine Qm ?_
 refine Qnx ?_
 refine Wp.block ?_
 obtain ⟨e1,hl,h⟩:=Qbs h
 refine Qlp (γ:=Unit) (δ:=Unit) hl [0, 1, 7] (fun s1 g1 => [(4, VP.of (0 : Int)), (8, VP.of (s1))]) (fun s1 g1 => []) (fun q1 => Sum.elim (fun q1 => Exit.exit 0) (fun q1 => Exit.ret) q1) (fun q1 g1 => Sum.elim (fun q1 => [(4, VP.of (0 : Int)), (8, VP.of (q1.1)), (9, VP.of (q1.2))]) (fun q1 => [(4, VP.of (q1.1)), (5, VP.of (q1.2.1)), (8, VP.of (q1.2.2.1)), (9, VP.of (q1.2.2.2.1)), (16, VP.of (q1.2.2.2.2))]) q1) (fun q1 g1 => Sum.elim (fun q1 => []) (fun q1 => []) q1) () (fun s1 r h g1 => ?_) fun g1 => ?_
 ·clear hl
  refine Qsr ?_
  refine Q2 r_lss ?_
  refine Qns ?_
  refine Qcd h (fun h=>?_) fun h=>?_
  ·refine Qkn ?_
   refine Wp.seq ?_
   refine Wp.block ?_
   refine Qsr ?_
   refine Qm ?_
   refine Qa ?_
   refine Qnr ?_
   refine Qm ?_
   refine Qm ?_
   refine Qm ?_
   obtain ⟨k1,hk1,h⟩:=Qbs h
   refine Qix hk1 Try.underlying28 ty136 ?_
   refine Q1 (r_loadp ty136) ?_
   obtain ⟨y1,hy1,h⟩:=Qbs h
   refine Qv (r_callF1 (look_t rfl) (look_t rfl) hy1) ?_
   refine Qnx ?_
   refine Qcd h (fun h=>?_) fun h=>?_
   ·refine Qsr ?_
    refine Qm ?_
    refine Qa ?_
    refine Qnx ?_
    refine Wp.ret ?_
    refine To.bret ?_
    refine To.ret ?_
    obtain rfl:=some_in h
    exact Qlv () 0
   ·refine Wp.skip ?_
    refine To.bnorm ?_
    refine To.next ?_
    refine Wp.reg ?_
    refine Q2 r_add ?_
    refine Qm ?_
    refine Sq.nil ?_
    obtain rfl:=some_in h
    exact Qrd () 0
  ·refine Wp.exit ?_
   refine To.exit ?_
   obtain rfl:=some_in h
   exact Qlv () 0
 ·clear hl
  rcases e1 with e1 | e1
  ·simp only [Sum.elim_inl] at h
   refine To.bexit ?_
   refine To.next ?_
   refine Qsr ?_
   refine Qa ?_
   refine Qnx ?_
   refine Wp.ret ?_
   obtain rfl:=some_in h
   exact Qe1
  ·simp only [Sum.elim_inr] at h
   refine To.bret ?_
   refine To.ret ?_
   obtain rfl:=some_in h
   exact Qe1
end Go.Proofs.Ytodajdohokmjnaa

namespace Go.Proofs.Ytodajdohokmjnaa
open Go Gv
set_option linter.unusedVariables false
set_option linter.unusedSimpArgs false
set_option maxRecDepth 100000
set_option maxHeartbeats 2000000
theorem Cop0_2_slices_Insert_api_Installed {x0 x2 : List T_api_Installed} {x1 : Int} {key00 key02 : Option Nat} {cap00 cap02 : Nat} {r : List T_api_Installed} (h : Lp0_2_slices_Insert_api_Installed x0 x1 x2 = some r) : MeetsO Try.prog 85 [VP.eq (slv key00 x0.length cap00), VP.of x1, VP.eq (slv key02 x2.length cap02)] [⟨key00, .row 92 x0 cap00⟩, ⟨key02, .row 92 x2 cap02⟩] (δ := (Option Nat × Nat)) (fun d => VP.eq (slv d.1 r.length d.2)) (fun d => [⟨d.1, .row 92 r d.2⟩]) := by
  unfold Lp0_2_slices_Insert_api_Installed at h
  obtain ⟨k, rfl, hk, hv, hb1, hb2, rfl⟩ := insM_some h
  refine MeetsO.of Try.func85 rfl Try.ntmps85 rfl fun W A => ?_
  refine Wp.seq ?_
  refine Wp.reg ?_
  refine Sq.v (r_asg look_own) rfl rfl rfl ?_
  refine Sq.nil ?_
  refine To.next ?_
  refine Wp.seq ?_
  refine Wp.reg ?_
  refine Sq.v (r_move (look_t rfl)) rfl rfl rfl ?_
  refine Sq.v (r_move (look_t rfl)) rfl rfl rfl ?_
  refine Sq.v (r_sliceO (i := 0) (xs := x0) Try.underlying84 ty92 (look_t rfl) rfl (.some (look_t rfl)) .none rfl rfl ⟨hk, Nat.le_refl _⟩) rfl rfl rfl ?_
  refine Sq.nil ?_
  refine To.next ?_
  refine Wp.seq ?_
  refine Wp.reg ?_
  refine Sq.v (r_move (look_t rfl)) rfl rfl rfl ?_
  refine Sq.v (r_lenO (i := 1) (xs := x2) Try.underlying84 (look_t rfl) rfl rfl) rfl rfl rfl ?_
  refine Sq.v (r_asg (look_t rfl)) rfl rfl rfl ?_
  refine Sq.nil ?_
  refine To.next ?_
  refine Wp.seq ?_
  refine Wp.seq ?_
  refine Wp.reg ?_
  refine Sq.v (r_move (look_t rfl)) rfl rfl rfl ?_
  refine Sq.v (r_eql (look_t rfl) (look_int 0)) rfl rfl rfl ?_
  refine Sq.nil ?_
  refine To.next ?_
  refine Wp.cond (look_t rfl) (fun hc => ?_) (fun _ => ?_)
  · exfalso; simp only [beq_iff_eq] at hc; omega
  refine Wp.skip ?_
  refine To.next ?_
  refine Wp.seq ?_
  refine Wp.reg ?_
  refine Sq.v (r_move (look_t rfl)) rfl rfl rfl ?_
  refine Sq.v (r_lenO (i := 0) (xs := x0) Try.underlying84 (look_t rfl) rfl rfl) rfl rfl rfl ?_
  refine Sq.v (r_asg (look_t rfl)) rfl rfl rfl ?_
  refine Sq.nil ?_
  refine To.next ?_
  refine Wp.seq ?_
  refine Wp.seq ?_
  refine Wp.reg ?_
  refine Sq.v (r_move (look_t rfl)) rfl rfl rfl ?_
  refine Sq.v (r_move (look_t rfl)) rfl rfl rfl ?_
  refine Sq.v (r_eql (look_t rfl) (look_t rfl)) rfl rfl rfl ?_
  refine Sq.nil ?_
  refine To.next ?_
  refine Wp.cond (look_t rfl) (fun hc => ?_) (fun hc => ?_)
  · have hkn : k = x0.length := by simp only [beq_iff_eq] at hc; omega
    subst hkn
    refine Wp.seq ?_
    refine Wp.reg ?_
    refine Sq.v (r_move (look_t rfl)) rfl rfl rfl ?_
    refine Sq.freezeL (α := T_api_Installed) 1 [2, 13] ⟨rfl, rfl, trivial⟩ rfl ?_
    refine Sq.v (r_move (look_t rfl)) rfl rfl rfl ?_
    refine Sq.app (i := 0) (xs := x0) (ys := x2) (r := x0 ++ x2) Try.underlying84 ty92 zr92 (by kernel_rfl) (look_t rfl) rfl (look_t rfl) (by unfold appM; rw [if_pos ⟨hb1, hb2⟩]) rfl fun key1 cap1 => ?_
    refine Sq.v (r_asg (look_t rfl)) rfl rfl rfl ?_
    refine Sq.nil ?_
    refine To.next ?_
    refine Wp.ret ?_
    have hr : x0.take x0.length ++ x2 ++ x0.drop x0.length = x0 ++ x2 := by simp
    rw [hr]
    exact To.endO1 (key1, cap1) (.cons_cons _ (List.nil_sublist _)) rfl rfl (rvo_t rfl)
  have hkn : k < x0.length := by simp only [beq_eq_false_iff_ne] at hc; omega
  refine Wp.skip ?_
  refine To.next ?_
  refine Wp.some (i := 0) (xs := x0) rfl (by omega) fun p hp hcap hcm => ?_
  subst hp
  refine Wp.some (i := 1) (xs := x2) rfl (by omega) fun q hq hcap2 hcm2 => ?_
  subst hq
  refine Wp.apart rfl fun hpq => ?_
  refine Wp.seq ?_
  refine Wp.seq ?_
  refine Wp.reg ?_
  refine Sq.v (r_move (look_t rfl)) rfl rfl rfl ?_
  refine Sq.v (r_move (look_t rfl)) rfl rfl rfl ?_
  refine Sq.v (r_add (look_t rfl) (look_t rfl)) rfl rfl rfl ?_
  refine Sq.v (r_move (look_t rfl)) rfl rfl rfl ?_
  refine Sq.v (r_capO Try.underlying84 (look_t rfl)) rfl rfl rfl ?_
  refine Sq.v (r_gtr (look_t rfl) (look_t rfl)) rfl rfl rfl ?_
  refine Sq.nil ?_
  refine To.next ?_
  have hw : w64 ((x0.length : Int) + (x2.length : Int)) = ((x0.length + x2.length : Nat) : Int) := by
    have hml : maxLen = 9223372036854775807 := rfl
    rw [w64_in (by omega) (by omega)]; simp
  refine Wp.cond (look_t rfl) (fun hc2 => ?_) (fun hc2 => ?_)
  · have hroom : cap00 < x0.length + x2.length := by rw [hw] at hc2; simp only [decide_eq_true_eq] at hc2; omega
    have hml : maxLen = 9223372036854775807 := rfl
    have hj : w64 (w64 ((x0.length : Int) + (x2.length : Int)) - (k : Int)) = ((x0.length + x2.length - k : Nat) : Int) := by
      rw [hw, w64_in (by omega) (by omega)]; omega
    refine Wp.seq ?_
    refine Wp.reg ?_
    refine Sq.v (r_move (look_t rfl)) rfl rfl rfl ?_
    refine Sq.v (r_move (look_t rfl)) rfl rfl rfl ?_
    refine Sq.v (r_sliceO (i := 0) (xs := x0) Try.underlying84 ty92 (look_t rfl) rfl .none (.some (look_t rfl)) rfl rfl ⟨Nat.zero_le _, hk⟩) rfl rfl rfl ?_
    refine Sq.v (r_move (look_t rfl)) rfl rfl rfl ?_
    refine Sq.v (r_move (look_t rfl)) rfl rfl rfl ?_
    refine Sq.v (r_add (look_t rfl) (look_t rfl)) rfl rfl rfl ?_
    refine Sq.v (r_move (look_t rfl)) rfl rfl rfl ?_
    refine Sq.v (r_sub (look_t rfl) (look_t rfl)) rfl rfl rfl ?_
    refine Sq.appZ (i := 0) (m := k) (k := x0.length + x2.length - k) (xs := x0) (z := (default : T_api_Installed)) Try.underlying84 Try.underlying3 ty92 zr92 (by rfl) (by kernel_rfl) (look_t rfl) (by rw [← hj]; exact look_t rfl) rfl hk (by omega) (by omega) (by rw [show k + (x0.length + x2.length - k) = x0.length + x2.length by omega]; exact hb1) (by omega) rfl fun q1 cap1 => ?_
    refine Sq.v (r_asg (look_t rfl)) rfl rfl rfl ?_
    refine Sq.nil ?_
    refine To.next ?_
    have hlen : (x0.take k ++ List.replicate (x0.length + x2.length - k) (default : T_api_Installed)).length = x0.length + x2.length := by simp; omega
    refine Wp.some (i := 0) (xs := x0.take k ++ List.replicate (x0.length + x2.length - k) (default : T_api_Installed)) rfl (by omega) fun q2 hq2 hcapN hcmN => ?_
    rw [hlen] at hcapN
    refine Wp.seq ?_
    refine Wp.reg ?_
    refine Sq.v (r_move (look_t rfl)) rfl rfl rfl ?_
    refine Sq.v (r_move (look_t rfl)) rfl rfl rfl ?_
    refine Sq.v (r_sliceE (α := T_api_Installed) (m := k) (h := k + (x0.length + x2.length - k)) Try.underlying84 ty92 (look_t rfl) (.some (look_t rfl)) .none rfl rfl ⟨by omega, by omega⟩) rfl rfl rfl ?_
    refine Sq.v (r_move (look_t rfl)) rfl rfl rfl ?_
    refine Sq.copyG (i := 0) (p := q1) (off := k * Rp.size T_api_Installed) (dLen := k + (x0.length + x2.length - k) - k) (dCap := cap1 - k) (N := x2.length) (vs := x2) (T := 92) Try.underlying84 ty92 (by rw [← vslv_at (by omega)]; exact look_t rfl) (src_row (i := 2) (look_t rfl) rfl hv) (Nat.min_eq_left (by omega)) rfl rfl (fun A W o cells h h' => row_part (by omega) h h') ?_
    refine Sq.nil ?_
    refine To.next ?_
    have e1 : (x0.take k ++ List.replicate (x0.length + x2.length - k) (default : T_api_Installed)).take k ++ x2 ++ (x0.take k ++ List.replicate (x0.length + x2.length - k) (default : T_api_Installed)).drop (k + x2.length) = x0.take k ++ x2 ++ List.replicate (x0.length - k) (default : T_api_Installed) := by
      have hk' : (x0.take k).length = k := by rw [List.length_take]; omega
      rw [List.take_left' hk', List.drop_append, hk', List.drop_eq_nil_of_le (by omega), List.nil_append, List.drop_replicate]
      congr 2
      omega
    have hw2 : w64 ((k : Int) + (x2.length : Int)) = ((k + x2.length : Nat) : Int) := by rw [w64_in (by omega) (by omega)]; simp
    refine Wp.seq ?_
    refine Wp.le (E' := [(0, VP.eq (slv (some p) x0.length cap00)), (1, VP.of (k : Int)), (7, VP.of (x2.length : Int)), (9, VP.eq (slv (some q1) (k + (x0.length + x2.length - k)) cap1))]) (.same rfl (.same rfl (.same rfl (.same rfl .nil)))) ?_
    refine Wp.drawD mixed (⟨some 46, [], [], [], fun _ => VP.eq (slv (some q1) (k + (x0.length + x2.length - k)) cap1), fun _ _ => ⟨none, .dead⟩⟩ :: ⟨some 47, [], [], [], fun _ => VP.of (k : Int), fun _ _ => ⟨none, .dead⟩⟩ :: ⟨some 48, [], [], [], fun _ => VP.of (x2.length : Int), fun _ _ => ⟨none, .dead⟩⟩ :: ⟨some 49, (1 :: 2 :: []), [], [], fun _ => VP.of (w64 ((k : Int) + (x2.length : Int))), fun _ _ => ⟨none, .dead⟩⟩ :: ⟨some 50, (0 :: 3 :: []), [], [], fun _ => VP.eq (vslv (some q1) (k + x2.length) ((k + (x0.length + x2.length - k)) - (k + x2.length)) cap1 (Rp.size T_api_Installed)), fun _ _ => ⟨none, .dead⟩⟩ :: ⟨some 51, [], [], [], fun _ => VP.eq (slv (some p) x0.length cap00), fun _ _ => ⟨none, .dead⟩⟩ :: ⟨some 52, [], [], [], fun _ => VP.of (k : Int), fun _ _ => ⟨none, .dead⟩⟩ :: ⟨some 53, (5 :: 6 :: []), [], [], fun _ => VP.eq (vslv (some p) k (x0.length - k) cap00 (Rp.size T_api_Installed)), fun _ _ => ⟨none, .dead⟩⟩ :: ⟨some 54, (4 :: 7 :: []), (0 :: 1 :: []), (0 :: []), fun _ => VP.of ((((x0.drop k).take (x0.length - k)).length : Nat) : Int), fun _ _ => ⟨some q1, .row 92 ((x0.take k ++ x2 ++ List.replicate (x0.length - k) (default : T_api_Installed)).take (k + x2.length) ++ (x0.drop k).take (x0.length - k) ++ (x0.take k ++ x2 ++ List.replicate (x0.length - k) (default : T_api_Installed)).drop (k + x2.length + ((x0.drop k).take (x0.length - k)).length)) cap1⟩⟩ :: []) ((some 46, [], [], []) :: (some 47, [], [], []) :: (some 48, [], [], []) :: (some 49, (1 :: 2 :: []), [], []) :: (some 50, (0 :: 3 :: []), [], []) :: (some 51, [], [], []) :: (some 52, [], [], []) :: (some 53, (5 :: 6 :: []), [], []) :: (some 54, (4 :: 7 :: []), (0 :: 1 :: []), (0 :: [])) :: []) (0 :: 1 :: 7 :: 9 :: []) rfl rfl (by kernel_rfl) ⟨?_, ?_, ?_, ?_, ?_, ?_, ?_, ?_, ?_, trivial⟩ fun hd => ?_
    · exact hd_v rfl rfl rfl fun hd E' L' hE hL => r_move (look_t (hE _ _ rfl))
    · exact hd_v rfl rfl rfl fun hd E' L' hE hL => r_move (look_t (hE _ _ rfl))
    · exact hd_v rfl rfl rfl fun hd E' L' hE hL => r_move (look_t (hE _ _ rfl))
    · exact hd_v rfl rfl rfl fun hd E' L' hE hL => r_add (look_t (hE _ _ rfl)) (look_t (hE _ _ rfl))
    · exact hd_v rfl rfl rfl fun hd E' L' hE hL => r_sliceE (α := T_api_Installed) (m := k + x2.length) (h := (k + (x0.length + x2.length - k))) Try.underlying84 ty92 (look_t (hE _ _ rfl)) (.some (look_t (hE _ _ rfl))) .none hw2 rfl ⟨by omega, by omega⟩
    · exact hd_v rfl rfl rfl fun hd E' L' hE hL => r_move (look_t (hE _ _ rfl))
    · exact hd_v rfl rfl rfl fun hd E' L' hE hL => r_move (look_t (hE _ _ rfl))
    · exact hd_v rfl rfl rfl fun hd E' L' hE hL => r_sliceE (α := T_api_Installed) (m := k) (h := x0.length) Try.underlying84 ty92 (look_t (hE _ _ rfl)) (.some (look_t (hE _ _ rfl))) .none rfl rfl ⟨by omega, by omega⟩
    · intro hd E' L' hE hL
      have h0 := hL 0 _ rfl rfl
      rw [e1] at h0
      refine Sq.copyG (i := 0) (p := q1) (off := (k + x2.length) * Rp.size T_api_Installed) (T := 92) (vs := (x0.drop k).take (x0.length - k)) (N := x0.length - k) (dLen := (k + (x0.length + x2.length - k)) - (k + x2.length)) (dCap := cap1 - (k + x2.length)) Try.underlying84 ty92 (by rw [← vslv_at (p := q1) (lo := k + x2.length) (cap := cap1) (size := Rp.size T_api_Installed) (by omega)]; exact look_t (hE _ _ rfl)) (src_own (i := 1) (look_t (hE _ _ rfl)) (hL 1 _ rfl rfl) (by omega) (by omega)) (by rw [show ((x0.drop k).take (x0.length - k)).length = x0.length - k by simp]; exact Nat.min_eq_left (by omega)) h0 rfl (fun A W o cells h h' => row_part (by simp; omega) h h') ?_
      refine Sq.nil ?_
      exact To.fin (gm []) rfl rfl
    have e2 : ((x0.take k ++ x2 ++ List.replicate (x0.length - k) (default : T_api_Installed)).take (k + x2.length) ++ (x0.drop k).take (x0.length - k) ++ (x0.take k ++ x2 ++ List.replicate (x0.length - k) (default : T_api_Installed)).drop (k + x2.length + ((x0.drop k).take (x0.length - k)).length)) = x0.take k ++ x2 ++ x0.drop k := by
      have hk' : (x0.take k ++ x2).length = k + x2.length := by simp; omega
      have hk2 : (x0.drop k).take (x0.length - k) = x0.drop k := List.take_of_length_le (by simp)
      have hk3 : (x0.take k ++ x2 ++ List.replicate (x0.length - k) (default : T_api_Installed)).drop (k + x2.length + (x0.drop k).length) = [] := List.drop_eq_nil_of_le (by rw [List.length_append, hk', List.length_replicate, List.length_drop]; omega)
      rw [hk2, List.take_left' hk', hk3, List.append_nil]
    refine To.eqL (L2 := [⟨some q1, .row 92 ((x0.take k ++ x2 ++ List.replicate (x0.length - k) (default : T_api_Installed)).take (k + x2.length) ++ (x0.drop k).take (x0.length - k) ++ (x0.take k ++ x2 ++ List.replicate (x0.length - k) (default : T_api_Installed)).drop (k + x2.length + ((x0.drop k).take (x0.length - k)).length)) cap1⟩, ⟨some p, .row 92 x0 cap00⟩, ⟨some q, .row 92 x2 cap02⟩]) rfl ?_
    rw [e2]
    refine To.le (E' := [(9, VP.eq (slv (some q1) (k + (x0.length + x2.length - k)) cap1))]) (.same rfl .nil) ?_
    refine To.next ?_
    refine Wp.seq ?_
    refine Wp.reg ?_
    refine Sq.v (r_move (look_t rfl)) rfl rfl rfl ?_
    refine Sq.v (r_asg (look_t rfl)) rfl rfl rfl ?_
    refine Sq.nil ?_
    refine To.next ?_
    refine Wp.ret ?_
    have e3 : k + (x0.length + x2.length - k) = (x0.take k ++ x2 ++ x0.drop k).length := by simp; omega
    rw [e3]
    exact To.endO1 (some q1, cap1) (.cons_cons _ (List.nil_sublist _)) rfl rfl (rvo_t rfl)
  have hroom : x0.length + x2.length ≤ cap00 := by rw [hw] at hc2; simp only [decide_eq_false_iff_not] at hc2; omega
  have hml : maxLen = 9223372036854775807 := rfl
  have hw2 : w64 ((k : Int) + (x2.length : Int)) = ((k + x2.length : Nat) : Int) := by rw [w64_in (by omega) (by omega)]; simp
  refine Wp.skip ?_
  refine To.next ?_
  refine Wp.seq ?_
  refine Wp.reg ?_
  refine Sq.v (r_move (look_t rfl)) rfl rfl rfl ?_
  refine Sq.v (r_move (look_t rfl)) rfl rfl rfl ?_
  refine Sq.v (r_move (look_t rfl)) rfl rfl rfl ?_
  refine Sq.v (r_add (look_t rfl) (look_t rfl)) rfl rfl rfl ?_
  refine Sq.v (r_sliceE (α := T_api_Installed) (m := 0) (h := x0.length + x2.length) Try.underlying84 ty92 (look_t rfl) .none (.some (look_t rfl)) rfl hw ⟨by omega, by omega⟩) rfl rfl rfl ?_
  refine Sq.v (r_asg (look_t rfl)) rfl rfl rfl ?_
  refine Sq.nil ?_
  refine To.next ?_
  refine Wp.seq ?_
  refine Wp.seq ?_
  refine Wp.reg ?_
  refine Sq.v (r_move (look_t rfl)) rfl rfl rfl ?_
  refine Sq.v (r_move (look_t rfl)) rfl rfl rfl ?_
  refine Sq.v (r_move (look_t rfl)) rfl rfl rfl ?_
  refine Sq.v (r_move (look_t rfl)) rfl rfl rfl ?_
  refine Sq.v (r_add (look_t rfl) (look_t rfl)) rfl rfl rfl ?_
  refine Sq.v (r_sliceE (α := T_api_Installed) (p := p) (n := x0.length + x2.length) (cap := cap00) (m := k + x2.length) (h := x0.length + x2.length) Try.underlying84 ty92 (look_z (size := Rp.size T_api_Installed) (look_t rfl)) (.some (look_t rfl)) .none hw2 rfl ⟨by omega, by omega⟩) rfl rfl rfl ?_
  refine Sq.v (r_ovl (α := T_api_Installed) (p := p) (q := q) (T := 92) (U := 92) (xs := x0) (vs := x2) (cap := cap00) (cap' := cap02) (i := 0) (j := 1) (tR := 4) (by kernel_rfl) Try.func120 (by kernel_rfl) (by kernel_rfl) (by kernel_rfl) (by kernel_rfl) Try.underlying84 ty92 (look_t rfl) (look_a (p := p) (lo := k + x2.length) (cap := cap00) (size := Rp.size T_api_Installed) (by omega) (look_t rfl)) rfl rfl hpq (by omega)) rfl rfl rfl ?_
  refine Sq.v (r_not (look_t rfl)) rfl rfl rfl ?_
  refine Sq.nil ?_
  refine To.next ?_
  refine Wp.cond (look_t rfl) (fun _ => ?_) (fun hc3 => by cases hc3)
  · have hs0 : (x0.length + x2.length - 0) = x0.length + x2.length := by omega
    have hdt : (x0.drop k).take (x0.length - k) = x0.drop k := List.take_of_length_le (by simp)
    refine Wp.seq ?_
    refine Wp.le (E' := [(0, VP.eq (vslv (some p) 0 (x0.length + x2.length - 0) cap00 (Rp.size T_api_Installed))), (1, VP.of (k : Int)), (2, VP.eq (slv (some q) x2.length cap02)), (7, VP.of (x2.length : Int))]) (.same rfl (.same rfl (.same rfl (.same rfl .nil)))) ?_
    refine Wp.drawD mixed (⟨some 69, [], [], [], fun _ => VP.eq (vslv (some p) 0 (x0.length + x2.length - 0) cap00 (Rp.size T_api_Installed)), fun _ _ => ⟨none, .dead⟩⟩ :: ⟨some 70, [], [], [], fun _ => VP.of (k : Int), fun _ _ => ⟨none, .dead⟩⟩ :: ⟨some 71, [], [], [], fun _ => VP.of (x2.length : Int), fun _ _ => ⟨none, .dead⟩⟩ :: ⟨some 72, (1 :: 2 :: []), [], [], fun _ => VP.of (w64 ((k : Int) + (x2.length : Int))), fun _ _ => ⟨none, .dead⟩⟩ :: ⟨some 73, (0 :: 3 :: []), [], [], fun _ => VP.eq (vslv (some p) (k + x2.length) (x0.length + x2.length - (k + x2.length)) cap00 (Rp.size T_api_Installed)), fun _ _ => ⟨none, .dead⟩⟩ :: ⟨some 74, [], [], [], fun _ => VP.eq (vslv (some p) 0 (x0.length + x2.length - 0) cap00 (Rp.size T_api_Installed)), fun _ _ => ⟨none, .dead⟩⟩ :: ⟨some 75, [], [], [], fun _ => VP.of (k : Int), fun _ _ => ⟨none, .dead⟩⟩ :: ⟨some 76, (5 :: 6 :: []), [], [], fun _ => VP.eq (vslv (some p) k (x0.length + x2.length - k) cap00 (Rp.size T_api_Installed)), fun _ _ => ⟨none, .dead⟩⟩ :: ⟨some 77, (4 :: 7 :: []), (0 :: []), (0 :: []), fun _ => VP.of ((((x0.drop k).take (x0.length - k)).length : Nat) : Int), fun _ _ => ⟨some p, .gap 92 x0 k x2.length cap00⟩⟩ :: []) ((some 69, [], [], []) :: (some 70, [], [], []) :: (some 71, [], [], []) :: (some 72, (1 :: 2 :: []), [], []) :: (some 73, (0 :: 3 :: []), [], []) :: (some 74, [], [], []) :: (some 75, [], [], []) :: (some 76, (5 :: 6 :: []), [], []) :: (some 77, (4 :: 7 :: []), (0 :: []), (0 :: [])) :: []) (0 :: 1 :: 2 :: 7 :: []) rfl rfl (by kernel_rfl) ⟨?_, ?_, ?_, ?_, ?_, ?_, ?_, ?_, ?_, trivial⟩ fun hd => ?_
    · exact hd_v rfl rfl rfl fun hd E' L' hE hL => r_move (look_t (hE _ _ rfl))
    · exact hd_v rfl rfl rfl fun hd E' L' hE hL => r_move (look_t (hE _ _ rfl))
    · exact hd_v rfl rfl rfl fun hd E' L' hE hL => r_move (look_t (hE _ _ rfl))
    · exact hd_v rfl rfl rfl fun hd E' L' hE hL => r_add (look_t (hE _ _ rfl)) (look_t (hE _ _ rfl))
    · exact hd_v rfl rfl rfl fun hd E' L' hE hL => r_sliceE (α := T_api_Installed) (n := x0.length + x2.length) (m := k + x2.length) (h := x0.length + x2.length) Try.underlying84 ty92 (look_z (size := Rp.size T_api_Installed) (look_t (hE _ _ rfl))) (.some (look_t (hE _ _ rfl))) .none hw2 rfl ⟨by omega, by omega⟩
    · exact hd_v rfl rfl rfl fun hd E' L' hE hL => r_move (look_t (hE _ _ rfl))
    · exact hd_v rfl rfl rfl fun hd E' L' hE hL => r_move (look_t (hE _ _ rfl))
    · exact hd_v rfl rfl rfl fun hd E' L' hE hL => r_sliceE (α := T_api_Installed) (n := x0.length + x2.length) (m := k) (h := x0.length + x2.length) Try.underlying84 ty92 (look_z (size := Rp.size T_api_Installed) (look_t (hE _ _ rfl))) (.some (look_t (hE _ _ rfl))) .none rfl rfl ⟨by omega, by omega⟩
    · intro hd E' L' hE hL
      have h0 := hL 0 _ rfl rfl
      refine Sq.copyG (i := 0) (p := p) (off := (k + x2.length) * Rp.size T_api_Installed) (T := 92) (vs := (x0.drop k).take (x0.length - k)) (N := x0.length + x2.length - k) (dLen := x0.length + x2.length - (k + x2.length)) (dCap := cap00 - (k + x2.length)) (cp' := .gap 92 x0 k x2.length cap00) Try.underlying84 ty92 (look_a (p := p) (lo := k + x2.length) (cap := cap00) (size := Rp.size T_api_Installed) (by omega) (look_t (hE _ _ rfl))) (src_own (i := 0) (look_t (hE _ _ rfl)) h0 (by omega) (by omega)) (by rw [hdt]; rw [show (x0.drop k).length = x0.length + x2.length - (k + x2.length) by simp; omega]; exact Nat.min_eq_right (by omega)) h0 rfl (fun A W o cells h h' => gap_new hk hroom h (by rw [← hdt]; exact h')) ?_
      refine Sq.nil ?_
      exact To.fin (gm []) rfl rfl
    refine To.eqL (L2 := [⟨some p, .gap 92 x0 k x2.length cap00⟩, ⟨some q, .row 92 x2 cap02⟩]) rfl ?_
    refine To.le (E' := [(0, VP.eq (vslv (some p) 0 (x0.length + x2.length - 0) cap00 (Rp.size T_api_Installed))), (1, VP.of (k : Int)), (2, VP.eq (slv (some q) x2.length cap02))]) (.same rfl (.same rfl (.same rfl .nil))) ?_
    refine To.next ?_
    refine Wp.seq ?_
    refine Wp.reg ?_
    refine Sq.v (r_move (look_t rfl)) rfl rfl rfl ?_
    refine Sq.v (r_move (look_t rfl)) rfl rfl rfl ?_
    refine Sq.v (r_sliceE (α := T_api_Installed) (n := x0.length + x2.length) (m := k) (h := x0.length + x2.length) Try.underlying84 ty92 (look_z (size := Rp.size T_api_Installed) (look_t rfl)) (.some (look_t rfl)) .none rfl rfl ⟨by omega, by omega⟩) rfl rfl rfl ?_
    refine Sq.v (r_move (look_t rfl)) rfl rfl rfl ?_
    refine Sq.copyG (i := 0) (p := p) (off := k * Rp.size T_api_Installed) (dLen := x0.length + x2.length - k) (dCap := cap00 - k) (N := x2.length) (vs := x2) (T := 92) (cp' := .row 92 (x0.take k ++ x2 ++ x0.drop k) cap00) Try.underlying84 ty92 (look_a (p := p) (lo := k) (cap := cap00) (size := Rp.size T_api_Installed) (by omega) (look_t rfl)) (src_row (i := 1) (look_t rfl) rfl hv) (Nat.min_eq_left (by omega)) rfl rfl (fun A W o cells h h' => gap_fill hk h h') ?_
    refine Sq.nil ?_
    refine To.next ?_
    refine Wp.seq ?_
    refine Wp.reg ?_
    refine Sq.v (r_move (look_t rfl)) rfl rfl rfl ?_
    refine Sq.v (r_asg (look_t rfl)) rfl rfl rfl ?_
    refine Sq.nil ?_
    refine To.next ?_
    refine Wp.ret ?_
    have e3 : x0.length + x2.length - 0 = (x0.take k ++ x2 ++ x0.drop k).length := by simp; omega
    rw [vslv_zero, e3]
    exact To.endO1 (some p, cap00) (.cons_cons _ (List.nil_sublist _)) rfl rfl (rvo_t rfl)
theorem Cq0_1_ordered_New {x0 : T_api_Schema}  {r : T_ordered_List} (h : Lq0_1_ordered_New x0 = some r) : MeetsO Try.prog 30 [VP.of (x0)] [] (δ := Nat × (Option Nat × Nat)) (fun d => VP.eq (.pointer (some ⟨d.1, 0, none⟩))) (fun d => [⟨some d.1, .varX (({ r with f_l := [] } : T_ordered_List) : T_ordered_List) [(10, slv d.2.1 (r.f_l).length d.2.2)]⟩, ⟨d.2.1, .row 92 (r.f_l : List T_api_Installed) d.2.2⟩]) := by
 unfold Lq0_1_ordered_New at h
 refine MeetsO.of Try.func30 rfl Try.ntmps30 rfl fun W A => ?_
 refine Qsr ?_
 refine Qbx fun p1 => ?_
 refine Qv (r_asg (look_e (.pointer none))) ?_
 refine Qnr ?_
 refine Ql0 0 ty33 ?_
 refine Qv (r_buildX (b := ({ (default : T_ordered_List) with f_schema := x0 } : T_ordered_List)) [10] zh161_10 rfl bu161 zr161 (.cons le_T_ordered_List_schema rfl (look_t rfl) rfl (by rfl) (.nil))) ?_
 refine Sq.own (α := T_api_Installed) 92 ?_
 refine Sq.boxX (look_t rfl) rfl fun p2 => ?_
 refine Qa ?_
 refine Qnx ?_
 refine Wp.ret ?_
 refine To.clr (γ := T_api_Installed) (b' := (({ ({ (default : T_ordered_List) with f_schema := x0 } : T_ordered_List) with f_l := [] } : T_ordered_List) : T_ordered_List)) ((Lens.id T_ordered_List).comp le_T_ordered_List_l) 0 0 rfl rfl rfl ?_
 refine To.bring 1 rfl ?_
 refine To.bring 1 rfl ?_
 obtain rfl:=some_in h
 exact Qo1 (p2, (none, 0))
end Go.Proofs.Ytodajdohokmjnaa

namespace Go.Proofs.Ytodajdohokmjnaa
open Go Gv
set_option linter.unusedVariables false
set_option linter.unusedSimpArgs false
set_option maxRecDepth 100000
set_option maxHeartbeats 2000000
theorem C_mcase_Inside {x0 : T_api_Entry} {x1 : Vector T_api_Value 4}  {r : (Vector T_api_Value 4)} (h : L_mcase_Inside x0 x1 = some r) : Meets Try.prog 34 [VP.of (x0), VP.of (x1)] (VP.of (r)) := by
 unfold L_mcase_Inside at h
 refine Meets.of Try.func34 rfl Try.ntmps34 rfl fun W A => ?_
 refine Qsr ?_
 refine Qbx fun p1 => ?_
 refine Qbx fun p2 => ?_
 refine Qal zr81 fun p3 => ?_
 refine Qns ?_
 refine Qsr ?_
 refine Q1 (r_fa fd89_1) ?_
 refine Qld 2 le_T_api_Entry_Matches ty87 ?_
 refine Q1 (r_len Try.underlying87) ?_
 refine Qm ?_
 refine Qnx ?_
 refine Wp.block ?_
 obtain ⟨e1,hl,h⟩:=Qbs h
 refine Qlp (γ:=Unit) (δ:=Unit) hl [0, 1, 2, 3, 4, 8, 9] (fun s1 g1 => [(10, VP.of (s1.1))]) (fun s1 g1 => [(1, ⟨some p2, .var (s1.2 : Vector T_api_Value 4)⟩)]) (fun q1 => Exit.exit 0) (fun q1 g1 => [(10, VP.of (q1.1)), (11, VP.of (q1.2.1))]) (fun q1 g1 => [(1, ⟨some p2, .var (q1.2.2 : Vector T_api_Value 4)⟩)]) () (fun s1 r h g1 => ?_) fun g1 => ?_
 ·clear hl
  refine Qsr ?_
  refine Q2 r_lss ?_
  refine Qns ?_
  refine Qcd h (fun h=>?_) fun h=>?_
  ·refine Qkn ?_
   refine Wp.seq ?_
   refine Wp.block ?_
   refine Qsr ?_
   refine Qm ?_
   obtain ⟨k1,hk1,h⟩:=Qbs h
   refine Qix hk1 Try.underlying87 ty104 ?_
   refine Q1 (r_loadp ty104) ?_
   refine Qal zr104 fun p4 => ?_
   refine Qa ?_
   refine Qs0 0 ty104 ?_
   refine Qns ?_
   refine Qsr ?_
   refine Qm ?_
   refine Q2 r_geq ?_
   refine Qm ?_
   refine Qg1 (r_fa fd104_0) ?_
   refine Qg (fun hb => r_load (i := 0) ((Lens.id T_api_Match).comp le_T_api_Match_Present) (r := (lget x0.f_Matches k1).f_Present) ty4 (look_tc rfl hb) rfl rfl rfl) ?_
   refine Qg1 r_not ?_
   refine Qor ?_
   refine Qnx ?_
   refine Qcd h (fun h=>?_) fun h=>?_
   ·refine Wp.exit ?_
    refine To.exit ?_
    refine To.bexit ?_
    refine To.next ?_
    refine Wp.reg ?_
    refine Q2 r_add ?_
    refine Qm ?_
    refine Sq.nil ?_
    obtain rfl:=some_in h
    exact Qrd () 1
   ·refine Qkn ?_
    refine Wp.block ?_
    refine Qsr ?_
    refine Q1 (r_fa fd104_2) ?_
    refine Qld 0 le_T_api_Match_Mask ty47 ?_
    refine Qbd bu47 zr47 (default : T_api_Value) .nil ?_
    refine Q2 (r_neA eqv47 rfl eqg47 rfl) ?_
    refine Qa ?_
    refine Qnx ?_
    obtain ⟨m1,hm1,h⟩:=Qbs h
    refine Qcm (γ:=Unit) [0, 1, 2, 3, 4, 5, 6, 8, 9, 10, 11, 21, 26] (fun g2 => []) (fun g2 => [(2, ⟨some p2, .var (m1 : Vector T_api_Value 4)⟩)]) (fun g2 => ?_) (fun hm hc => ?_) fun hm hc => ?_
    ·clear hm1
     refine To.bnorm ?_
     refine To.bnorm ?_
     refine To.next ?_
     refine Wp.reg ?_
     refine Q2 r_add ?_
     refine Qm ?_
     refine Sq.nil ?_
     obtain rfl:=some_in h
     exact Qrd () 1
    ·have h := cond_t hc hm1
     obtain ⟨k2,hk2,h⟩:=Qbs h
     obtain ⟨z1,hz1,h⟩:=Qbs h
     obtain ⟨k3,hk3,h⟩:=Qbs h
     obtain ⟨z2,hz2,h⟩:=Qbs h
     obtain ⟨k4,hk4,h⟩:=Qbs h
     refine Wp.draw mixed 29 ((some 31) :: (some 32) :: (some 33) :: (some 34) :: (some 35) :: (some 36) :: (some 37) :: (some 38) :: (some 39) :: (some 40) :: (some 41) :: (some 42) :: (some 43) :: (some 44) :: (some 45) :: (some 46) :: (some 47) :: (some 48) :: (some 49) :: (some 50) :: (some 51) :: (some 52) :: (some 53) :: (some 54) :: (some 55) :: (some 56) :: (some 57) :: (some 58) :: none :: []) ([] :: [] :: [] :: [2] :: [3] :: [4] :: [] :: [6] :: [7] :: [5, 8] :: [] :: [10] :: [11] :: [9, 12] :: [] :: [14] :: [15] :: [16] :: [] :: [18] :: [19] :: [17, 20] :: [] :: [22] :: [23] :: [21, 24] :: [0] :: [26] :: [13, 27] :: []) (.val _ :: .val _ :: .val _ :: .val _ :: .val _ :: .val _ :: .val _ :: .val _ :: .val _ :: .val _ :: .val _ :: .val _ :: .val _ :: .val _ :: .val _ :: .val _ :: .val _ :: .val _ :: .val _ :: .val _ :: .val _ :: .val _ :: .val _ :: .val _ :: .val _ :: .val _ :: .val _ :: .val _ :: .sto 2 (.var (vset s1.2 k4 ({ (vget s1.2 k4) with f_Lo := z1 } : T_api_Value) : Vector T_api_Value 4)) :: []) (false :: false :: false :: false :: false :: false :: false :: false :: false :: false :: false :: false :: false :: false :: false :: false :: false :: false :: false :: false :: false :: false :: false :: false :: false :: false :: false :: false :: true :: []) (by kernel_rfl) rfl rfl rfl (fun ps1 => ⟨Hm, Hm, Hm, Hv fun L' hL => r_ia (k := k2) ar81 (look_t rfl) (look_t rfl) (idx_some hk2), H1 (r_fa fd47_1), Hld 2 (((Lens.id (Vector T_api_Value 4)).comp (Lens.idx (α := T_api_Value) 4 k2 (idx_some hk2).1)).comp le_T_api_Value_Lo) ty45, H1 (r_fa fd104_2), H1 (r_fa fd47_1), Hld 0 (le_T_api_Match_Mask.comp le_T_api_Value_Lo) ty45, H2 r_andNot64, H1 (r_fa fd104_1), H1 (r_fa fd47_1), Hld 0 (le_T_api_Match_Value.comp le_T_api_Value_Lo) ty45, Hn hz1 fun L' hL => r_or64 (look_t rfl) (look_t rfl), Hm, Hv fun L' hL => r_ia (k := k3) ar81 (look_t rfl) (look_t rfl) (idx_some hk3), H1 (r_fa fd47_0), Hld 2 (((Lens.id (Vector T_api_Value 4)).comp (Lens.idx (α := T_api_Value) 4 k3 (idx_some hk3).1)).comp le_T_api_Value_Hi) ty45, H1 (r_fa fd104_2), H1 (r_fa fd47_0), Hld 0 (le_T_api_Match_Mask.comp le_T_api_Value_Hi) ty45, H2 r_andNot64, H1 (r_fa fd104_1), H1 (r_fa fd47_0), Hld 0 (le_T_api_Match_Value.comp le_T_api_Value_Hi) ty45, Hn hz2 fun L' hL => r_or64 (look_t rfl) (look_t rfl), Hv fun L' hL => r_ia (k := k4) ar81 (look_t rfl) (look_t rfl) (idx_some hk4), H1 (r_fa fd47_1), ⟨_, _, rfl, fun L' hL => so_var (i := 2) (((Lens.id (Vector T_api_Value 4)).comp (Lens.idx (α := T_api_Value) 4 k4 (idx_some hk4).1)).comp le_T_api_Value_Lo) (v := (z1 : BitVec 64)) (b' := (vset s1.2 k4 ({ (vget s1.2 k4) with f_Lo := z1 } : T_api_Value) : Vector T_api_Value 4)) ty45 (look_t rfl) (look_t rfl) (hL _ _ rfl) rfl rfl⟩, trivial⟩) fun ps1 => ?_
     obtain ⟨k5,hk5,h⟩:=Qbs h
     refine Qv (r_ia (k := k5) ar81 (look_t rfl) (look_t rfl) (idx_some hk5)) ?_
     refine Q1 (r_fa fd47_0) ?_
     obtain ⟨z3,hz3,h⟩:=Qbs h
     refine Qsn 2 (((Lens.id (Vector T_api_Value 4)).comp (Lens.idx (α := T_api_Value) 4 k5 (idx_some hk5).1)).comp le_T_api_Value_Hi) ty45 (hb := by exact hz3) ?_
     refine Sq.nil ?_
     obtain rfl:=some_in h
     exact Qmt 0 (hm ())
    ·have h := cond_f hc hm1
     refine Qsr ?_
     refine Q1 (r_fa fd104_3) ?_
     refine Qld 0 le_T_api_Match_Prefix ty3 ?_
     refine Q2 r_gtr ?_
     refine Qm ?_
     refine Qg1 (r_fa fd104_3) ?_
     refine Qg (fun hb => r_load (i := 0) ((Lens.id T_api_Match).comp le_T_api_Match_Prefix) (r := (lget x0.f_Matches k1).f_Prefix) ty3 (look_tc rfl hb) rfl rfl rfl) ?_
     refine Qg2 r_leq ?_
     obtain ⟨z4,hz4,h⟩:=Qbs h
     refine Qn hz4 (r_and (look_t rfl) (look_t rfl) (fun h => h)) ?_
     refine Qa ?_
     refine Qnx ?_
     obtain ⟨m2,hm2,h⟩:=Qbs h
     refine Qcm (γ:=Unit) [0, 1, 2, 3, 4, 5, 6, 8, 9, 10, 11, 21, 26, 61] (fun g3 => []) (fun g3 => [(2, ⟨some p2, .var (m2 : Vector T_api_Value 4)⟩)]) (fun g3 => ?_) (fun hm hc => ?_) fun hm hc => ?_
     ·clear hm2
      obtain rfl:=some_in h
      exact Qmt 0 (hm ())
     ·have h := cond_t hc hm2
      obtain ⟨k6,hk6,h⟩:=Qbs h
      obtain ⟨z5,hz5,h⟩:=Qbs h
      obtain ⟨z6,hz6,h⟩:=Qbs h
      obtain ⟨k7,hk7,h⟩:=Qbs h
      refine Wp.draw mixed 18 ((some 70) :: (some 71) :: (some 72) :: (some 73) :: (some 74) :: (some 75) :: (some 76) :: (some 77) :: (some 78) :: (some 79) :: (some 80) :: (some 81) :: (some 82) :: (some 83) :: (some 84) :: (some 85) :: (some 86) :: (some 87) :: []) ([] :: [] :: [1] :: [2] :: [] :: [4] :: [5] :: [6] :: [] :: [8] :: [9] :: [10] :: [11] :: [12] :: [7, 13] :: [3, 14] :: [15] :: [0] :: []) (.val _ :: .val _ :: .val _ :: .val _ :: .val _ :: .val _ :: .val _ :: .val _ :: .val _ :: .val _ :: .val _ :: .val _ :: .val _ :: .val _ :: .val _ :: .val _ :: .val _ :: .val _ :: []) (false :: false :: false :: false :: false :: false :: false :: false :: false :: false :: false :: false :: false :: false :: false :: false :: false :: false :: []) (by kernel_rfl) rfl rfl rfl (fun ps2 => ⟨Hm, H1 (r_fa fd104_1), H1 (r_fa fd47_1), Hld 0 (le_T_api_Match_Value.comp le_T_api_Value_Lo) ty45, Hm, Hv fun L' hL => r_ia (k := k6) ar81 (look_t rfl) (look_t rfl) (idx_some hk6), H1 (r_fa fd47_1), Hld 2 (((Lens.id (Vector T_api_Value 4)).comp (Lens.idx (α := T_api_Value) 4 k6 (idx_some hk6).1)).comp le_T_api_Value_Lo) ty45, H1 (r_fa fd104_3), Hld 0 le_T_api_Match_Prefix ty3, H2 r_sub, H1 (r_ci64 Try.underlying3 Try.underlying173), Hn hz5 fun L' hL => r_shl64 (look_u64 1 rfl) (look_t rfl), Hv fun L' hL => r_sub64 (look_t rfl) (look_u64 1 rfl), H2 r_and64, Hn hz6 fun L' hL => r_or64 (look_t rfl) (look_t rfl), Hv fun L' hL => r_build (b := ({ (default : T_api_Value) with f_Lo := z6 } : T_api_Value)) rfl bu47 zr47 (.cons le_T_api_Value_Lo rfl (look_t rfl) rfl (.nil)), Hv fun L' hL => r_ia (k := k7) ar81 (look_t rfl) (look_t rfl) (idx_some hk7), trivial⟩) fun ps2 => ?_
      obtain ⟨z7,hz7,h⟩:=Qbs h
      refine Qsn 2 ((Lens.id (Vector T_api_Value 4)).comp (Lens.idx (α := T_api_Value) 4 k7 (idx_some hk7).1)) ty47 (hb := by exact hz7) ?_
      refine Sq.nil ?_
      obtain rfl:=some_in h
      exact Qmt 0 (hm ())
     ·have h := cond_f hc hm2
      refine Wp.reg ?_
      refine Qm ?_
      refine Q1 (r_fa fd104_1) ?_
      refine Qld 0 le_T_api_Match_Value ty47 ?_
      obtain ⟨k8,hk8,h⟩:=Qbs h
      refine Qv (r_ia (k := k8) ar81 (look_t rfl) (look_t rfl) (idx_some hk8)) ?_
      refine Qst 2 ((Lens.id (Vector T_api_Value 4)).comp (Lens.idx (α := T_api_Value) 4 k8 (idx_some hk8).1)) ty47 ?_
      refine Sq.nil ?_
      obtain rfl:=some_in h
      exact Qmt 0 (hm ())
  ·refine Wp.exit ?_
   refine To.exit ?_
   obtain rfl:=some_in h
   exact Qlv () 0
 ·clear hl
  refine To.bexit ?_
  refine To.next ?_
  refine Qsr ?_
  refine Ql0 1 ty81 ?_
  refine Qs0 0 ty81 ?_
  refine Qnx ?_
  refine Wp.ret ?_
  obtain rfl:=some_in h
  exact To.end1 rfl (Qrc 0 ty81)
theorem C_ordered_List_matching {x1 : Vector T_api_Value 4} {u0 : Option Addr} {r : (Vector T_api_Value 4)} (h : L_ordered_List_matching x1 = some r) : Meets Try.prog 80 [VP.eq (.pointer u0), VP.of (x1)] (VP.clo 114 [VP.pv (VP.eq (.pointer u0)), VP.ptr r]) := by
 unfold L_ordered_List_matching at h
 refine Meets.of Try.func80 rfl Try.ntmps80 rfl fun W A => ?_
 refine Qsr ?_
 refine Sq.boxF (look_t rfl) one_eqp rfl ?_
 refine Qbx fun p2 => ?_
 refine Qv (r_asg (look_e .nilFunc)) ?_
 refine Qnr ?_
 refine Sq.share (α := Vector T_api_Value 4) 0 3 rfl rfl ?_
 refine Qv (r_mkI (f := 114) (τs := [VP.pv (VP.eq (.pointer u0)), VP.ptr x1]) ⟨look_t rfl, look_t rfl, trivial⟩) ?_
 refine Qa ?_
 refine Qnx ?_
 refine Wp.ret ?_
 obtain rfl:=some_in h
 exact Qe1
theorem C_check_FieldOf_fn1 {x0 : T_api_Field} {x1 : Int}  {r : Bool} (h : L_check_FieldOf_fn1 x0 x1 = some r) : Meets Try.prog 183 [VP.of (x0), VP.ptr x1] (VP.of (r)) := by
 unfold L_check_FieldOf_fn1 at h
 refine Meets.of Try.func183 rfl Try.ntmps183 rfl fun W A => ?_
 refine Qsr ?_
 refine Qbx fun p1 => ?_
 refine Qa ?_
 refine Qnr ?_
 refine Q1 (r_fa fd123_0) ?_
 refine Qld 0 le_T_api_Field_ID ty3 ?_
 refine Q1 (r_loadp ty3) ?_
 refine Q2 r_eql ?_
 refine Qa ?_
 refine Qnx ?_
 refine Wp.ret ?_
 obtain rfl:=some_in h
 exact Qe1
theorem C_slices_IndexFunc_api_Field {x0 : List T_api_Field} {x1 : T_api_Field → Option Bool}  {r : Int} (h : L_slices_IndexFunc_api_Field x0 x1 = some r) : Meets Try.prog 182 [VP.of (x0), VP.fn1 Try.prog x1] (VP.of (r)) := by
 unfold L_slices_IndexFunc_api_Field at h
 refine Meets.of Try.func182 rfl Try.ntmps182 rfl fun W A => ?_
 refine Qsr ?_
 refine Qa ?_
 refine Qns ?_
 refine Qsr ?_
 refine Qm ?_
 refine Q1 (r_len Try.underlying24) ?_
 refine Qm ?_
 refine Qnx ?_
 refine Wp.block ?_
 obtain ⟨e1,hl,h⟩:=Qbs h
 refine Qlp (γ:=Unit) (δ:=Unit) hl [0, 1, 7] (fun s1 g1 => [(4, VP.of (0 : Int)), (8, VP.of (s1))]) (fun s1 g1 => []) (fun q1 => Sum.elim (fun q1 => Exit.exit 0) (fun q1 => Exit.ret) q1) (fun q1 g1 => Sum.elim (fun q1 => [(4, VP.of (0 : Int)), (8, VP.of (q1.1)), (9, VP.of (q1.2))]) (fun q1 => [(4, VP.of (q1.1)), (5, VP.of (q1.2.1)), (8, VP.of (q1.2.2.1)), (9, VP.of (q1.2.2.2.1)), (16, VP.of (q1.2.2.2.2))]) q1) (fun q1 g1 => Sum.elim (fun q1 => []) (fun q1 => []) q1) () (fun s1 r h g1 => ?_) fun g1 => ?_
 ·clear hl
  refine Qsr ?_
  refine Q2 r_lss ?_
  refine Qns ?_
  refine Qcd h (fun h=>?_) fun h=>?_
  ·refine Qkn ?_
   refine Wp.seq ?_
   refine Wp.block ?_
   refine Qsr ?_
   refine Qm ?_
   refine Qa ?_
   refine Qnr ?_
   refine Qm ?_
   refine Qm ?_
   refine Qm ?_
   obtain ⟨k1,hk1,h⟩:=Qbs h
   refine Qix hk1 Try.underlying24 ty123 ?_
   refine Q1 (r_loadp ty123) ?_
   obtain ⟨y1,hy1,h⟩:=Qbs h
   refine Qv (r_callF1 (look_t rfl) (look_t rfl) hy1) ?_
   refine Qnx ?_
   refine Qcd h (fun h=>?_) fun h=>?_
   ·refine Qsr ?_
    refine Qm ?_
    refine Qa ?_
    refine Qnx ?_
    refine Wp.ret ?_
    refine To.bret ?_
    refine To.ret ?_
    obtain rfl:=some_in h
    exact Qlv () 0
   ·refine Wp.skip ?_
    refine To.bnorm ?_
    refine To.next ?_
    refine Wp.reg ?_
    refine Q2 r_add ?_
    refine Qm ?_
    refine Sq.nil ?_
    obtain rfl:=some_in h
    exact Qrd () 0
  ·refine Wp.exit ?_
   refine To.exit ?_
   obtain rfl:=some_in h
   exact Qlv () 0
 ·clear hl
  rcases e1 with e1 | e1
  ·simp only [Sum.elim_inl] at h
   refine To.bexit ?_
   refine To.next ?_
   refine Qsr ?_
   refine Qa ?_
   refine Qnx ?_
   refine Wp.ret ?_
   obtain rfl:=some_in h
   exact Qe1
  ·simp only [Sum.elim_inr] at h
   refine To.bret ?_
   refine To.ret ?_
   obtain rfl:=some_in h
   exact Qe1
theorem C_value_within {x0 : Int}  {r : Int} (h : L_value_within x0 = some r) : Meets Try.prog 193 [VP.of (x0)] (VP.of (r)) := by
 unfold L_value_within at h
 refine Meets.of Try.func193 rfl Try.ntmps193 rfl fun W A => ?_
 refine Qsr ?_
 refine Qa ?_
 refine Qnr ?_
 refine Qm ?_
 refine Q2 r_max ?_
 refine Q2 r_min ?_
 refine Qa ?_
 refine Qnx ?_
 refine Wp.ret ?_
 obtain rfl:=some_in h
 exact Qe1
theorem C_value_Right {x0 : T_api_Value} {x1 : Int}  {r : T_api_Value} (h : L_value_Right x0 x1 = some r) : Meets Try.prog 194 [VP.of (x0), VP.of (x1)] (VP.of (r)) := by
 unfold L_value_Right at h
 refine Meets.of Try.func194 rfl Try.ntmps194 rfl fun W A => ?_
 refine Qsr ?_
 refine Qbx fun p1 => ?_
 refine Qal zr47 fun p2 => ?_
 refine Qns ?_
 refine Wp.block ?_
 refine Qsr ?_
 refine Qm ?_
 refine Q2 r_leq ?_
 refine Qa ?_
 refine Qnx ?_
 refine Qcd h (fun h=>?_) fun h=>?_
 ·refine Qsr ?_
  refine Ql0 1 ty47 ?_
  refine Qs0 0 ty47 ?_
  refine Qnx ?_
  refine Wp.ret ?_
  refine To.bret ?_
  refine To.ret ?_
  obtain rfl:=some_in h
  exact To.end1 rfl (Qrc 0 ty47)
 ·refine Qsr ?_
  refine Qm ?_
  refine Q2 r_geq ?_
  refine Qa ?_
  refine Qnx ?_
  refine Qcd h (fun h=>?_) fun h=>?_
  ·refine Qsr ?_
   refine Q1 (r_fa fd47_0) ?_
   refine Qld 1 le_T_api_Value_Hi ty45 ?_
   refine Qm ?_
   refine Q2 r_sub ?_
   refine Q1 (r_ci64 Try.underlying3 Try.underlying173) ?_
   refine Q2 r_shr64 ?_
   obtain ⟨z1,hz1,h⟩:=Qbs h
   refine Qn hz1 (r_build (b := ({ (default : T_api_Value) with f_Lo := x0.f_Hi >>> (BitVec.ofInt 64 (w64 (x1 - 64))).toNat } : T_api_Value)) rfl bu47 zr47 (.cons le_T_api_Value_Lo rfl (look_t rfl) rfl (.nil))) ?_
   refine Qs0 0 ty47 ?_
   refine Qnx ?_
   refine Wp.ret ?_
   refine To.bret ?_
   refine To.ret ?_
   obtain rfl:=some_in h
   exact To.end1 rfl (Qrc 0 ty47)
  ·refine Wp.skip ?_
   refine To.bnorm ?_
   refine To.next ?_
   refine Qsr ?_
   refine Q1 (r_fa fd47_0) ?_
   refine Qld 1 le_T_api_Value_Hi ty45 ?_
   refine Qm ?_
   refine Q1 (r_ci64 Try.underlying3 Try.underlying173) ?_
   refine Q2 r_shr64 ?_
   refine Q1 (r_fa fd47_1) ?_
   refine Qld 1 le_T_api_Value_Lo ty45 ?_
   refine Qm ?_
   refine Q1 (r_ci64 Try.underlying3 Try.underlying173) ?_
   refine Q2 r_shr64 ?_
   refine Q1 (r_fa fd47_0) ?_
   refine Qld 1 le_T_api_Value_Hi ty45 ?_
   refine Qm ?_
   refine Q2 r_sub ?_
   refine Q1 (r_ci64 Try.underlying3 Try.underlying173) ?_
   refine Q2 r_shl64 ?_
   obtain ⟨z2,hz2,h⟩:=Qbs h
   refine Qn hz2 (r_or64 (look_t rfl) (look_t rfl)) ?_
   obtain ⟨z3,hz3,h⟩:=Qbs h
   refine Qn hz3 (r_build (b := { f_Hi := x0.f_Hi >>> (BitVec.ofInt 64 x1).toNat, f_Lo := z2 : T_api_Value }) rfl bu47 zr47 (.cons le_T_api_Value_Hi rfl (look_t rfl) rfl (.cons le_T_api_Value_Lo rfl (look_t rfl) rfl (.nil)))) ?_
   refine Qs0 0 ty47 ?_
   refine Qnx ?_
   refine Wp.ret ?_
   obtain rfl:=some_in h
   exact To.end1 rfl (Qrc 0 ty47)
theorem C_value_Xor {x0 : T_api_Value} {x1 : T_api_Value}  {r : T_api_Value} (h : L_value_Xor x0 x1 = some r) : Meets Try.prog 187 [VP.of (x0), VP.of (x1)] (VP.of (r)) := by
 unfold L_value_Xor at h
 refine Meets.of Try.func187 rfl Try.ntmps187 rfl fun W A => ?_
 refine Qsr ?_
 refine Qbx fun p1 => ?_
 refine Qbx fun p2 => ?_
 refine Qal zr47 fun p3 => ?_
 refine Qnr ?_
 refine Q1 (r_fa fd47_0) ?_
 refine Qld 2 le_T_api_Value_Hi ty45 ?_
 refine Q1 (r_fa fd47_0) ?_
 refine Qld 1 le_T_api_Value_Hi ty45 ?_
 refine Q2 r_xor64 ?_
 refine Q1 (r_fa fd47_1) ?_
 refine Qld 2 le_T_api_Value_Lo ty45 ?_
 refine Q1 (r_fa fd47_1) ?_
 refine Qld 1 le_T_api_Value_Lo ty45 ?_
 refine Q2 r_xor64 ?_
 obtain ⟨z1,hz1,h⟩:=Qbs h
 refine Qn hz1 (r_build (b := { f_Hi := x0.f_Hi ^^^ x1.f_Hi, f_Lo := x0.f_Lo ^^^ x1.f_Lo : T_api_Value }) rfl bu47 zr47 (.cons le_T_api_Value_Hi rfl (look_t rfl) rfl (.cons le_T_api_Value_Lo rfl (look_t rfl) rfl (.nil)))) ?_
 refine Qs0 0 ty47 ?_
 refine Qnx ?_
 refine Wp.ret ?_
 obtain rfl:=some_in h
 exact To.end1 rfl (Qrc 0 ty47)
theorem C_value_And {x0 : T_api_Value} {x1 : T_api_Value}  {r : T_api_Value} (h : L_value_And x0 x1 = some r) : Meets Try.prog 158 [VP.of (x0), VP.of (x1)] (VP.of (r)) := by
 unfold L_value_And at h
 refine Meets.of Try.func158 rfl Try.ntmps158 rfl fun W A => ?_
 refine Qsr ?_
 refine Qbx fun p1 => ?_
 refine Qbx fun p2 => ?_
 refine Qal zr47 fun p3 => ?_
 refine Qnr ?_
 refine Q1 (r_fa fd47_0) ?_
 refine Qld 2 le_T_api_Value_Hi ty45 ?_
 refine Q1 (r_fa fd47_0) ?_
 refine Qld 1 le_T_api_Value_Hi ty45 ?_
 refine Q2 r_and64 ?_
 refine Q1 (r_fa fd47_1) ?_
 refine Qld 2 le_T_api_Value_Lo ty45 ?_
 refine Q1 (r_fa fd47_1) ?_
 refine Qld 1 le_T_api_Value_Lo ty45 ?_
 refine Q2 r_and64 ?_
 obtain ⟨z1,hz1,h⟩:=Qbs h
 refine Qn hz1 (r_build (b := { f_Hi := x0.f_Hi &&& x1.f_Hi, f_Lo := x0.f_Lo &&& x1.f_Lo : T_api_Value }) rfl bu47 zr47 (.cons le_T_api_Value_Hi rfl (look_t rfl) rfl (.cons le_T_api_Value_Lo rfl (look_t rfl) rfl (.nil)))) ?_
 refine Qs0 0 ty47 ?_
 refine Qnx ?_
 refine Wp.ret ?_
 obtain rfl:=some_in h
 exact To.end1 rfl (Qrc 0 ty47)
theorem C_value_Compare {x0 : T_api_Value} {x1 : T_api_Value}  {r : Int} (h : L_value_Compare x0 x1 = some r) : Meets Try.prog 67 [VP.of (x0), VP.of (x1)] (VP.of (r)) := by
 unfold L_value_Compare at h
 refine Meets.of Try.func67 rfl Try.ntmps67 rfl fun W A => ?_
 refine Qsr ?_
 refine Qbx fun p1 => ?_
 refine Qbx fun p2 => ?_
 refine Qa ?_
 refine Qns ?_
 refine Wp.block ?_
 refine Qsr ?_
 refine Ql0 1 ty47 ?_
 refine Ql0 0 ty47 ?_
 refine Q2 (r_eqA eqv47 rfl eqg47 rfl) ?_
 refine Qa ?_
 refine Qnx ?_
 refine Qcd h (fun h=>?_) fun h=>?_
 ·refine Qsr ?_
  refine Qa ?_
  refine Qnx ?_
  refine Wp.ret ?_
  refine To.bret ?_
  refine To.ret ?_
  obtain rfl:=some_in h
  exact Qe1
 ·refine Qsr ?_
  refine Q1 (r_fa fd47_0) ?_
  refine Qld 1 le_T_api_Value_Hi ty45 ?_
  refine Q1 (r_fa fd47_0) ?_
  refine Qld 0 le_T_api_Value_Hi ty45 ?_
  refine Q2 r_lss64 ?_
  refine Qm ?_
  refine Qg1 (r_fa fd47_0) ?_
  refine Qg (fun hb => r_load (i := 1) ((Lens.id T_api_Value).comp le_T_api_Value_Hi) (r := x0.f_Hi) ty45 (look_tc rfl hb) rfl rfl rfl) ?_
  refine Qg1 (r_fa fd47_0) ?_
  refine Qg (fun hb => r_load (i := 0) ((Lens.id T_api_Value).comp le_T_api_Value_Hi) (r := x1.f_Hi) ty45 (look_tc rfl hb) rfl rfl rfl) ?_
  refine Qg2 r_eql64 ?_
  refine Qg1 r_move ?_
  refine Sq.gg (fun hb => r_fa fd47_1 (look_t rfl)) rfl rfl rfl rfl rfl ?_
  refine Sq.gg (fun hb => r_load (i := 1) ((Lens.id T_api_Value).comp le_T_api_Value_Lo) (r := x0.f_Lo) ty45 (look_tc rfl hb) rfl rfl rfl) rfl rfl rfl rfl rfl ?_
  refine Sq.gg (fun hb => r_fa fd47_1 (look_t rfl)) rfl rfl rfl rfl rfl ?_
  refine Sq.gg (fun hb => r_load (i := 0) ((Lens.id T_api_Value).comp le_T_api_Value_Lo) (r := x1.f_Lo) ty45 (look_tc rfl hb) rfl rfl rfl) rfl rfl rfl rfl rfl ?_
  refine Sq.gg (fun hb => r_lss64 (look_tc rfl hb) (look_tc rfl hb)) rfl rfl rfl rfl rfl ?_
  refine Qg (fun hb => r_and (look_tc rfl hb) (look_t rfl) (fun h => ⟨hb, h⟩)) ?_
  obtain ⟨z1,hz1,h⟩:=Qbs h
  refine Qn hz1 (r_or (look_t rfl) (look_t rfl) (fun h => h)) ?_
  refine Qa ?_
  refine Qnx ?_
  refine Qcd h (fun h=>?_) fun h=>?_
  ·refine Qsr ?_
   refine Qa ?_
   refine Qnx ?_
   refine Wp.ret ?_
   refine To.bret ?_
   refine To.ret ?_
   obtain rfl:=some_in h
   exact Qe1
  ·refine Wp.skip ?_
   refine To.bnorm ?_
   refine To.next ?_
   refine Qsr ?_
   refine Qa ?_
   refine Qnx ?_
   refine Wp.ret ?_
   obtain rfl:=some_in h
   exact Qe1
end Go.Proofs.Ytodajdohokmjnaa

namespace Go.Proofs.Ytodajdohokmjnaa
open Go Gv
set_option linter.unusedVariables false
set_option linter.unusedSimpArgs false
set_option maxRecDepth 100000
set_option maxHeartbeats 2000000
theorem C_slices_IndexFunc_api_Key {x0 : List T_api_Key} {x1 : T_api_Key → Option Bool}  {r : Int} (h : L_slices_IndexFunc_api_Key x0 x1 = some r) : Meets Try.prog 155 [VP.of (x0), VP.fn1 Try.prog x1] (VP.of (r)) := by
 unfold L_slices_IndexFunc_api_Key at h
 refine Meets.of Try.func155 rfl Try.ntmps155 rfl fun W A => ?_
 refine Qsr ?_
 refine Qa ?_
 refine Qns ?_
 refine Qsr ?_
 refine Qm ?_
 refine Q1 (r_len Try.underlying134) ?_
 refine Qm ?_
 refine Qnx ?_
 refine Wp.block ?_
 obtain ⟨e1,hl,h⟩:=Qbs h
 refine Qlp (γ:=Unit) (δ:=Unit) hl [0, 1, 7] (fun s1 g1 => [(4, VP.of (0 : Int)), (8, VP.of (s1))]) (fun s1 g1 => []) (fun q1 => Sum.elim (fun q1 => Exit.exit 0) (fun q1 => Exit.ret) q1) (fun q1 g1 => Sum.elim (fun q1 => [(4, VP.of (0 : Int)), (8, VP.of (q1.1)), (9, VP.of (q1.2))]) (fun q1 => [(4, VP.of (q1.1)), (5, VP.of (q1.2.1)), (8, VP.of (q1.2.2.1)), (9, VP.of (q1.2.2.2.1)), (16, VP.of (q1.2.2.2.2))]) q1) (fun q1 g1 => Sum.elim (fun q1 => []) (fun q1 => []) q1) () (fun s1 r h g1 => ?_) fun g1 => ?_
 ·clear hl
  refine Qsr ?_
  refine Q2 r_lss ?_
  refine Qns ?_
  refine Qcd h (fun h=>?_) fun h=>?_
  ·refine Qkn ?_
   refine Wp.seq ?_
   refine Wp.block ?_
   refine Qsr ?_
   refine Qm ?_
   refine Qa ?_
   refine Qnr ?_
   refine Qm ?_
   refine Qm ?_
   refine Qm ?_
   obtain ⟨k1,hk1,h⟩:=Qbs h
   refine Qix hk1 Try.underlying134 ty163 ?_
   refine Q1 (r_loadp ty163) ?_
   obtain ⟨y1,hy1,h⟩:=Qbs h
   refine Qv (r_callF1 (look_t rfl) (look_t rfl) hy1) ?_
   refine Qnx ?_
   refine Qcd h (fun h=>?_) fun h=>?_
   ·refine Qsr ?_
    refine Qm ?_
    refine Qa ?_
    refine Qnx ?_
    refine Wp.ret ?_
    refine To.bret ?_
    refine To.ret ?_
    obtain rfl:=some_in h
    exact Qlv () 0
   ·refine Wp.skip ?_
    refine To.bnorm ?_
    refine To.next ?_
    refine Wp.reg ?_
    refine Q2 r_add ?_
    refine Qm ?_
    refine Sq.nil ?_
    obtain rfl:=some_in h
    exact Qrd () 0
  ·refine Wp.exit ?_
   refine To.exit ?_
   obtain rfl:=some_in h
   exact Qlv () 0
 ·clear hl
  rcases e1 with e1 | e1
  ·simp only [Sum.elim_inl] at h
   refine To.bexit ?_
   refine To.next ?_
   refine Qsr ?_
   refine Qa ?_
   refine Qnx ?_
   refine Wp.ret ?_
   obtain rfl:=some_in h
   exact Qe1
  ·simp only [Sum.elim_inr] at h
   refine To.bret ?_
   refine To.ret ?_
   obtain rfl:=some_in h
   exact Qe1
theorem C_entry_Prefix_fn1 {x0 : T_api_Key}  {r : Bool} (h : L_entry_Prefix_fn1 x0 = some r) : Meets Try.prog 179 [VP.of (x0)] (VP.of (r)) := by
 unfold L_entry_Prefix_fn1 at h
 refine Meets.of Try.func179 rfl Try.ntmps179 rfl fun W A => ?_
 refine Qsr ?_
 refine Qbx fun p1 => ?_
 refine Qa ?_
 refine Qnr ?_
 refine Q1 (r_fa fd163_2) ?_
 refine Qld 0 le_T_api_Key_Kind ty3 ?_
 refine Q2 r_eql ?_
 refine Qa ?_
 refine Qnx ?_
 refine Wp.ret ?_
 obtain rfl:=some_in h
 exact Qe1
theorem C_entry_first {x0 : List Int}  {r : Int} (h : L_entry_first x0 = some r) : Meets Try.prog 144 [VP.of (x0)] (VP.of (r)) := by
 unfold L_entry_first at h
 refine Meets.of Try.func144 rfl Try.ntmps144 rfl fun W A => ?_
 refine Qsr ?_
 refine Qa ?_
 refine Qns ?_
 refine Qsr ?_
 refine Qm ?_
 refine Q1 (r_len Try.underlying64) ?_
 refine Qm ?_
 refine Qnx ?_
 refine Wp.block ?_
 obtain ⟨e1,hl,h⟩:=Qbs h
 refine Qlp (γ:=Unit) (δ:=Unit) hl [0, 5, 6] (fun s1 g1 => [(2, VP.of (0 : Int)), (7, VP.of (s1))]) (fun s1 g1 => []) (fun q1 => Sum.elim (fun q1 => Exit.exit 0) (fun q1 => Exit.ret) q1) (fun q1 g1 => Sum.elim (fun q1 => [(2, VP.of (0 : Int)), (7, VP.of (q1.1)), (8, VP.of (q1.2))]) (fun q1 => [(2, VP.of (q1.1)), (4, VP.of (q1.2.1)), (7, VP.of (q1.2.2.1)), (8, VP.of (q1.2.2.2.1)), (12, VP.of (q1.2.2.2.2))]) q1) (fun q1 g1 => Sum.elim (fun q1 => []) (fun q1 => []) q1) () (fun s1 r h g1 => ?_) fun g1 => ?_
 ·clear hl
  refine Qsr ?_
  refine Q2 r_lss ?_
  refine Qns ?_
  refine Qcd h (fun h=>?_) fun h=>?_
  ·refine Qkn ?_
   refine Wp.seq ?_
   refine Wp.block ?_
   refine Qsr ?_
   obtain ⟨k1,hk1,h⟩:=Qbs h
   refine Qix hk1 Try.underlying64 ty3 ?_
   refine Q1 (r_loadp ty3) ?_
   refine Qa ?_
   refine Qnr ?_
   refine Qm ?_
   refine Q2 r_neq ?_
   refine Qnx ?_
   refine Qcd h (fun h=>?_) fun h=>?_
   ·refine Qsr ?_
    refine Qm ?_
    refine Qa ?_
    refine Qnx ?_
    refine Wp.ret ?_
    refine To.bret ?_
    refine To.ret ?_
    obtain rfl:=some_in h
    exact Qlv () 0
   ·refine Wp.skip ?_
    refine To.bnorm ?_
    refine To.next ?_
    refine Wp.reg ?_
    refine Q2 r_add ?_
    refine Qm ?_
    refine Sq.nil ?_
    obtain rfl:=some_in h
    exact Qrd () 0
  ·refine Wp.exit ?_
   refine To.exit ?_
   obtain rfl:=some_in h
   exact Qlv () 0
 ·clear hl
  rcases e1 with e1 | e1
  ·simp only [Sum.elim_inl] at h
   refine To.bexit ?_
   refine To.next ?_
   refine Qsr ?_
   refine Qa ?_
   refine Qnx ?_
   refine Wp.ret ?_
   obtain rfl:=some_in h
   exact Qe1
  ·simp only [Sum.elim_inr] at h
   refine To.bret ?_
   refine To.ret ?_
   obtain rfl:=some_in h
   exact Qe1
theorem C_slices_Clone_api_Match {x0 : List T_api_Match}  {r : (List T_api_Match)} (h : L_slices_Clone_api_Match x0 = some r) : Meets Try.prog 142 [VP.of (x0)] (VP.of (r)) := by
 unfold L_slices_Clone_api_Match at h
 refine Meets.of Try.func142 rfl Try.ntmps142 rfl fun W A => ?_
 refine Qsr ?_
 refine Qv (r_asg (look_nil (α := T_api_Match))) ?_
 refine Qns ?_
 refine Qsr ?_
 refine Qm ?_
 refine Qv (r_nil Try.underlying87 (look_t rfl)) ?_
 refine Qnx ?_
 refine Wp.condN (look_t rfl) (fun hx => ?_) ?_
 ·subst hx; replace h := clone_nil h; subst h
  have h : some ([] : List T_api_Match) = some [] := rfl
  refine Qsr ?_
  refine Qv (r_asg (look_nil (α := T_api_Match))) ?_
  refine Qnx ?_
  refine Wp.ret ?_
  refine To.ret ?_
  replace h := some_in h
  clear h
  exact Qe1
 ·refine Qkn ?_
  refine Qsr ?_
  refine Sq.bslO (α := T_api_Match) (r := ([] : List T_api_Match)) Try.underlying87 ty104 zr104 rfl rfl (.nil) rfl fun key1 => ?_
  refine Qm ?_
  obtain ⟨y1,hy1,h⟩:=Qbs h
  refine Qap 0 Try.underlying87 ty104 zr104 hy1 fun key2 cap1 => ?_
  refine Qa ?_
  refine Qnx ?_
  refine Wp.ret ?_
  refine To.freezeL (α := T_api_Match) 0 [2, 7] ⟨rfl, rfl, trivial⟩ rfl ?_
  obtain rfl:=some_in h
  exact Qe1
theorem C_slices_Clone_api_Value {x0 : List T_api_Value}  {r : (List T_api_Value)} (h : L_slices_Clone_api_Value x0 = some r) : Meets Try.prog 143 [VP.of (x0)] (VP.of (r)) := by
 unfold L_slices_Clone_api_Value at h
 refine Meets.of Try.func143 rfl Try.ntmps143 rfl fun W A => ?_
 refine Qsr ?_
 refine Qv (r_asg (look_nil (α := T_api_Value))) ?_
 refine Qns ?_
 refine Qsr ?_
 refine Qm ?_
 refine Qv (r_nil Try.underlying72 (look_t rfl)) ?_
 refine Qnx ?_
 refine Wp.condN (look_t rfl) (fun hx => ?_) ?_
 ·subst hx; replace h := clone_nil h; subst h
  have h : some ([] : List T_api_Value) = some [] := rfl
  refine Qsr ?_
  refine Qv (r_asg (look_nil (α := T_api_Value))) ?_
  refine Qnx ?_
  refine Wp.ret ?_
  refine To.ret ?_
  replace h := some_in h
  clear h
  exact Qe1
 ·refine Qkn ?_
  refine Qsr ?_
  refine Sq.bslO (α := T_api_Value) (r := ([] : List T_api_Value)) Try.underlying72 ty47 zr47 rfl rfl (.nil) rfl fun key1 => ?_
  refine Qm ?_
  obtain ⟨y1,hy1,h⟩:=Qbs h
  refine Qap 0 Try.underlying72 ty47 zr47 hy1 fun key2 cap1 => ?_
  refine Qa ?_
  refine Qnx ?_
  refine Wp.ret ?_
  refine To.freezeL (α := T_api_Value) 0 [2, 7] ⟨rfl, rfl, trivial⟩ rfl ?_
  obtain rfl:=some_in h
  exact Qe1
end Go.Proofs.Ytodajdohokmjnaa

