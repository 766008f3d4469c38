/-
  Each function meets its functional program. Conditions: none.
-/
import Derived.Test.YtodajdohokmjnaaKc0
import Derived.Test.YtodajdohokmjnaaKc1
import Derived.Test.YtodajdohokmjnaaKc2
namespace Go.Proofs.Ytodajdohokmjnaa
open Go Gv
set_option linter.unusedVariables false
set_option linter.unusedSimpArgs false
set_option maxRecDepth 100000
set_option maxHeartbeats 2000000
theorem C_mcase_Codes_Entry {x0 : T_mcase_Codes} {x1 : T_api_Schema} {x2 : Int} {pp0 : Nat} {r : T_api_Entry × T_mcase_Codes} (h : L_mcase_Codes_Entry x0 x1 x2 = some r) : MeetsO Try.prog 32 [VP.eq (.pointer (some ⟨pp0, 0, none⟩)), VP.of (x1), VP.of (x2)] [⟨some pp0, .var (x0 : T_mcase_Codes)⟩] (δ := Unit) (fun d => VP.of (r.1)) (fun d => [⟨some pp0, .var (r.2 : T_mcase_Codes)⟩]) := by
 unfold L_mcase_Codes_Entry at h
 refine MeetsO.of Try.func32 rfl Try.ntmps32 rfl fun W A => ?_
 refine Qsr ?_
 refine Qbx fun p1 => ?_
 refine Qal zr89 fun p2 => ?_
 refine Qns ?_
 obtain ⟨y1,hy1,h⟩:=Qbs h
 obtain ⟨k1,hk1,h⟩:=Qbs h
 refine Wp.draw mixed 10 [some 13, some 14, some 15, some 16, some 17, some 18, some 19, some 20, some 21, some 7] [[], [0], [], [], [3], [4], [2, 5], [1, 6], [7], []] [.val _, .val _, .val _, .val _, .val _, .val _, .val _, .val _, .val _, .new (.var (default : T_api_Table))] [false, false, false, false, false, false, false, false, false, false] (by kernel_rfl) rfl rfl rfl (fun ps1 => ⟨H1 (r_fa fd33_4), Hld 1 le_T_api_Schema_Tables ty28, Hm, H1 (r_fa fd33_4), Hld 1 le_T_api_Schema_Tables ty28, H1 (r_len Try.underlying28), Hcl en22 (C_mcase_Mod hy1), Hix hk1 Try.underlying28 ty136, H1 (r_loadp ty136), ao_alloc zr136, trivial⟩) fun ps1 => ?_
 refine Qs0 0 ty136 ?_
 refine Qnr ?_
 refine Q1 (r_fa fd136_0) ?_
 refine Qld 0 le_T_api_Table_ID ty3 ?_
 refine Qv (r_buildX (b := ({ (default : T_api_Entry) with f_Table := (lget x1.f_Tables k1).f_ID } : T_api_Entry)) [1, 4] zh89_1_4 rfl bu89 zr89 (.cons le_T_api_Entry_Table rfl (look_t rfl) rfl (by rfl) (.nil))) ?_
 refine Sq.own (α := T_api_Match) 104 ?_
 refine Sq.own (α := T_api_Value) 47 ?_
 refine Sq.allocX (z := (default : T_api_Entry)) [1, 4] zh89_1_4 zr89 rfl fun p3 => ?_
 refine Sq.own (α := T_api_Match) 104 ?_
 refine Sq.own (α := T_api_Value) 47 ?_
 refine Sq.storeW (i := 2) ty89 (look_t rfl) (look_t rfl) rfl ?_
 refine Qns ?_
 refine Qsr ?_
 refine Q1 (r_fa fd136_2) ?_
 refine Qld 5 le_T_api_Table_Keys ty134 ?_
 refine Q1 (r_len Try.underlying134) ?_
 refine Qm ?_
 refine Qnx ?_
 refine Wp.block ?_
 obtain ⟨e1,hl,h⟩:=Qbs h
 refine Qlp (γ:=(Option Nat × Nat)) (δ:=(Option Nat × Nat)) hl [0, 1, 2, 4, 6, 7, 8, 26, 27] (fun s1 g1 => [(28, VP.of (s1.1))]) (fun s1 g1 => [(2, ⟨some p3, .varX (s1.2.1 : T_api_Entry) [(1, slv g1.1 s1.2.2.1.length g1.2), (4, slv none ([] : List T_api_Value).length 0)]⟩), (4, ⟨g1.1, .row 104 (s1.2.2.1 : List T_api_Match) g1.2⟩), (8, ⟨some pp0, .var (s1.2.2.2 : T_mcase_Codes)⟩)]) (fun q1 => Exit.exit 0) (fun q1 g1 => [(28, VP.of (q1.1)), (29, VP.of (q1.2.1))]) (fun q1 g1 => [(2, ⟨some p3, .varX (q1.2.2.1 : T_api_Entry) [(1, slv g1.1 q1.2.2.2.1.length g1.2), (4, slv none ([] : List T_api_Value).length 0)]⟩), (4, ⟨g1.1, .row 104 (q1.2.2.2.1 : List T_api_Match) g1.2⟩), (8, ⟨some pp0, .var (q1.2.2.2.2 : T_mcase_Codes)⟩)]) (none, 0) (fun s1 r h g1 => ?_) fun g1 => ?_
 ·clear hl
  refine Qsr ?_
  refine Q2 r_lss ?_
  refine Qns ?_
  refine Qcd h (fun h=>?_) fun h=>?_
  ·refine Qkn ?_
   refine Wp.seq ?_
   refine Wp.block ?_
   refine Qsr ?_
   obtain ⟨k2,hk2,h⟩:=Qbs h
   refine Qix hk2 Try.underlying134 ty163 ?_
   refine Q1 (r_loadp ty163) ?_
   refine Qal zr163 fun p4 => ?_
   refine Qs0 0 ty163 ?_
   refine Qns ?_
   obtain ⟨y2,hy2,h⟩:=Qbs h
   obtain ⟨y3,hy3,h⟩:=Qbs h
   refine Qwl [0, 1, 2, 4, 6, 7, 8, 10, 26, 27, 28, 29, 30, 31] ?_
   refine Wp.drawD mixed (Hp 32 [] [] _ :: Hp 33 (0 :: []) (3 :: []) _ :: Hp 34 [] [] _ :: Hp 35 [] (8 :: []) _ :: Hp 36 [] (0 :: []) _ :: ⟨some 37, (2 :: 3 :: 4 :: []), (9 :: []), (9 :: []), fun _ => VP.of (y2.1), fun hd _ => ⟨some pp0, .var (y2.2 : T_mcase_Codes)⟩⟩ :: Hp 38 (5 :: []) [] _ :: ⟨some 39, (1 :: 6 :: []), (5 :: []), (5 :: []), fun hd => VP.eq (slv (hd 7 0) y3.length ((hd 7 1).getD 0)), fun hd _ => ⟨(hd 7 0), .row 104 (y3 : List T_api_Match) ((hd 7 1).getD 0)⟩⟩ :: Hp 40 [] [] _ :: ⟨none, (1 :: 7 :: 8 :: []), (3 :: []), (3 :: []), fun _ => VP.any, fun hd _ => ⟨some p3, .varX (({ s1.2.1 with f_Matches := [] } : T_api_Entry) : T_api_Entry) [(1, slv (hd 7 0) y3.length ((hd 7 1).getD 0)), (4, slv none ([] : List T_api_Value).length 0)]⟩⟩ :: []) _ (0 :: 1 :: 2 :: 4 :: 6 :: 7 :: 8 :: 10 :: 26 :: 27 :: 28 :: 29 :: 30 :: 31 :: []) rfl rfl (by kernel_rfl) ⟨D1 (r_fa fd89_1), Dv fun hd E' L' hE hL => r_loadH (i := 3) (q := 0) (β := T_api_Entry) (γ := T_api_Match) ty87 (look_t (hE _ _ rfl)) (hL 3 _ rfl rfl) rfl, Dm, Dl0 8 ty33, Dl0 0 ty163, ?_, Dv fun hd E' L' hE hL => r_bsl (r := [y2.1]) Try.underlying87 ty104 zr104 rfl rfl (.cons (by simp) (look_t (hE _ _ rfl)) (.nil)), ?_, D1 (r_fa fd89_1), ?_, trivial⟩ fun hd => ?_
   ·intro hd E' L' hE hL
    refine Sq.bring 9 (hL 9 _ rfl rfl) ?_
    refine Sq.callO (Lin := [⟨some pp0, .var (s1.2.2.2 : T_mcase_Codes)⟩]) (Lr := L'.eraseIdx 9) en77 (C_mcase_Codes_match hy2) ⟨look_t (hE _ _ rfl), look_t (hE _ _ rfl), look_t (hE _ _ rfl), trivial⟩ rfl fun q2 => ?_
    refine Sq.nil ?_
    refine To.back 9 (hL 9 _ rfl rfl) ?_
    exact To.fin (gm []) rfl rfl
   ·intro hd E' L' hE hL
    refine Sq.app (i := 5) Try.underlying87 ty104 zr104 (bytes := 64) (by kernel_rfl) (look_t (hE _ _ rfl)) (hL 5 _ rfl rfl) (look_t (hE _ _ rfl)) hy3 rfl fun key1 cap1 => ?_
    refine Sq.nil ?_
    exact To.fin (gm [key1, some cap1]) rfl rfl
   ·intro hd E' L' hE hL
    refine Sq.storeH (i := 3) (γ := T_api_Match) (b' := (({ s1.2.1 with f_Matches := [] } : T_api_Entry) : T_api_Entry)) (os' := [(1, slv (hd 7 0) y3.length ((hd 7 1).getD 0)), (4, slv none ([] : List T_api_Value).length 0)]) ((Lens.id T_api_Entry).comp le_T_api_Entry_Matches) ty87 (look_t (hE _ _ rfl)) (look_t (hE _ _ rfl)) slv_one (hL 3 _ rfl rfl) rfl rfl rfl ?_
    refine Sq.nil ?_
    exact To.fin (gm []) rfl rfl
   refine To.eqL (L2 := [⟨some p4, .var (lget ((lget x1.f_Tables k1).f_Keys) k2 : T_api_Key)⟩, ⟨none, .row 47 (([] : List T_api_Value) : List T_api_Value) 0⟩, ⟨none, .row 104 (([] : List T_api_Match) : List T_api_Match) 0⟩, ⟨some p3, .varX (({ s1.2.1 with f_Matches := [] } : T_api_Entry) : T_api_Entry) [(1, slv (hd 7 0) y3.length ((hd 7 1).getD 0)), (4, slv none ([] : List T_api_Value).length 0)]⟩, ⟨none, .row 47 (([] : List T_api_Value) : List T_api_Value) 0⟩, ⟨(hd 7 0), .row 104 (y3 : List T_api_Match) ((hd 7 1).getD 0)⟩, ⟨some (ps1 9), .var (lget x1.f_Tables k1 : T_api_Table)⟩, ⟨some p2, .var ((default : T_api_Entry) : T_api_Entry)⟩, ⟨some p1, .var (x1 : T_api_Schema)⟩, ⟨some pp0, .var (y2.2 : T_mcase_Codes)⟩]) rfl ?_
   refine Qtl [0, 1, 2, 4, 6, 7, 8, 10, 26, 27, 28, 29, 30, 31, 32, 34, 35, 36, 37, 38, 39, 40] ?_
   refine To.next ?_
   refine Qsr ?_
   refine Q1 (r_fa fd163_2) ?_
   refine Qld 0 le_T_api_Key_Kind ty3 ?_
   refine Q2 r_eql ?_
   refine Qm ?_
   refine Qg1 (r_fa fd163_2) ?_
   refine Qg (fun hb => r_load (i := 0) ((Lens.id T_api_Key).comp le_T_api_Key_Kind) (r := (lget ((lget x1.f_Tables k1).f_Keys) k2).f_Kind) ty3 (look_tc rfl hb) rfl rfl rfl) ?_
   refine Qg2 r_eql ?_
   obtain ⟨z1,hz1,h⟩:=Qbs h
   refine Qn hz1 (r_or (look_t rfl) (look_t rfl) (fun h => h)) ?_
   refine Qnx ?_
   obtain ⟨m1,hm1,h⟩:=Qbs h
   refine Qcm (γ:=Unit) [0, 1, 2, 4, 6, 7, 8, 10, 26, 27, 28, 29, 48] (fun g2 => []) (fun g2 => [(3, ⟨some p3, .varX (m1.1 : T_api_Entry) [(1, slv (hd 7 0) y3.length ((hd 7 1).getD 0)), (4, slv none ([] : List T_api_Value).length 0)]⟩), (9, ⟨some pp0, .var (m1.2 : T_mcase_Codes)⟩)]) (fun g2 => ?_) (fun hm hc => ?_) fun hm hc => ?_
   ·clear hm1
    refine To.bnorm ?_
    refine To.next ?_
    refine Wp.reg ?_
    refine Q2 r_add ?_
    refine Qm ?_
    refine Sq.nil ?_
    obtain rfl:=some_in h
    exact Qrd ((hd 7 0), ((hd 7 1).getD 0)) 1
   ·have h := cond_t hc hm1
    refine Wp.reg ?_
    refine Qm ?_
    refine Sq.bring 9 rfl ?_
    obtain ⟨y4,hy4,h⟩:=Qbs h
    refine QcO 1 en49 (C_mcase_Codes_Next hy4) fun q3 => ?_
    refine Q2 r_add ?_
    refine Q1 (r_fa fd89_2) ?_
    obtain ⟨z2,hz2,h⟩:=Qbs h
    refine Sq.storeX (i := 4) ((Lens.id T_api_Entry).comp le_T_api_Entry_Priority) (v := (w64 (1 + y4.1) : Int)) (b' := (z2 : T_api_Entry)) ty3 (look_t rfl) (look_t rfl) rfl rfl (some_in hz2) (by rfl) ?_
    refine Sq.nil ?_
    refine To.bring 9 rfl ?_
    refine To.bring 9 rfl ?_
    refine To.bring 9 rfl ?_
    refine To.bring 9 rfl ?_
    refine To.bring 9 rfl ?_
    refine To.bring 9 rfl ?_
    refine To.bring 9 rfl ?_
    refine To.bring 9 rfl ?_
    refine To.bring 9 rfl ?_
    obtain rfl:=some_in h
    exact Qmt 0 (hm ())
   ·have h := cond_f hc hm1
    refine Wp.skip ?_
    obtain rfl:=some_in h
    exact Qmt 0 (hm ())
  ·refine Wp.exit ?_
   refine To.exit ?_
   obtain rfl:=some_in h
   exact Qlv (g1.1, g1.2) 0
 ·clear hl
  refine To.bexit ?_
  refine To.next ?_
  refine Wp.seq ?_
  obtain ⟨y5,hy5,h⟩:=Qbs h
  obtain ⟨k3,hk3,h⟩:=Qbs h
  obtain ⟨z3,hz3,h⟩:=Qbs h
  refine Qwl [0, 1, 2, 4, 6, 7, 8, 26, 27, 28, 29] ?_
  refine Wp.drawD mixed (Hp 54 [] [] _ :: Hp 55 (0 :: []) (5 :: []) _ :: Hp 56 [] [] _ :: Hp 57 [] [] _ :: Hp 58 (3 :: []) (5 :: []) _ :: Hp 59 (4 :: []) [] _ :: ⟨some 60, (2 :: 5 :: []), (8 :: []), (8 :: []), fun _ => VP.of (y5.1), fun hd _ => ⟨some pp0, .var (y5.2 : T_mcase_Codes)⟩⟩ :: Hp 61 (1 :: 6 :: []) [] _ :: Hp 62 (7 :: []) [] _ :: Hp 63 [] [] _ :: ⟨none, (8 :: 9 :: []), (2 :: []), (2 :: []), fun _ => VP.any, fun hd _ => ⟨some p3, .varX (z3 : T_api_Entry) [(1, slv g1.1 e1.2.2.2.1.length g1.2), (4, slv none ([] : List T_api_Value).length 0)]⟩⟩ :: []) _ (0 :: 1 :: 2 :: 4 :: 6 :: 7 :: 8 :: 26 :: 27 :: 28 :: 29 :: []) rfl rfl (by kernel_rfl) ⟨D1 (r_fa fd136_3), Dld 5 le_T_api_Table_Actions ty64, Dm, D1 (r_fa fd136_3), Dld 5 le_T_api_Table_Actions ty64, D1 (r_len Try.underlying64), ?_, Dv fun hd E' L' hE hL => r_ias (k := k3) Try.underlying64 ty3 (look_t (hE _ _ rfl)) (look_t (hE _ _ rfl)) (idx_some hk3), D1 (r_loadp ty3), D1 (r_fa fd89_3), ?_, trivial⟩ fun hd => ?_
  ·intro hd E' L' hE hL
   refine Sq.bring 8 (hL 8 _ rfl rfl) ?_
   refine Sq.callO (Lin := [⟨some pp0, .var (e1.2.2.2.2 : T_mcase_Codes)⟩]) (Lr := L'.eraseIdx 8) en49 (C_mcase_Codes_Next hy5) ⟨look_t (hE _ _ rfl), look_t (hE _ _ rfl), trivial⟩ rfl fun q4 => ?_
   refine Sq.nil ?_
   refine To.back 8 (hL 8 _ rfl rfl) ?_
   exact To.fin (gm []) rfl rfl
  ·intro hd E' L' hE hL
   refine Sq.storeX (i := 2) ((Lens.id T_api_Entry).comp le_T_api_Entry_Action) (v := (lget ((lget x1.f_Tables k1).f_Actions) k3 : Int)) (b' := (z3 : T_api_Entry)) ty3 (look_t (hE _ _ rfl)) (look_t (hE _ _ rfl)) (hL 2 _ rfl rfl) rfl (some_in hz3) (by rfl) ?_
   refine Sq.nil ?_
   exact To.fin (gm []) rfl rfl
  refine To.eqL (L2 := [⟨none, .row 47 (([] : List T_api_Value) : List T_api_Value) 0⟩, ⟨none, .row 104 (([] : List T_api_Match) : List T_api_Match) 0⟩, ⟨some p3, .varX (z3 : T_api_Entry) [(1, slv g1.1 e1.2.2.2.1.length g1.2), (4, slv none ([] : List T_api_Value).length 0)]⟩, ⟨none, .row 47 (([] : List T_api_Value) : List T_api_Value) 0⟩, ⟨g1.1, .row 104 (e1.2.2.2.1 : List T_api_Match) g1.2⟩, ⟨some (ps1 9), .var (lget x1.f_Tables k1 : T_api_Table)⟩, ⟨some p2, .var ((default : T_api_Entry) : T_api_Entry)⟩, ⟨some p1, .var (x1 : T_api_Schema)⟩, ⟨some pp0, .var (y5.2 : T_mcase_Codes)⟩]) rfl ?_
  refine Qtl [0, 1, 2, 4, 6, 7, 8, 26, 27, 28, 29, 54, 55, 56, 57, 58, 59, 60, 61, 62, 63] ?_
  refine To.next ?_
  refine Wp.seq ?_
  refine Qsr ?_
  refine Ql0 7 ty33 ?_
  refine Q1 (r_fa fd89_3) ?_
  refine Qlx 2 le_T_api_Entry_Action ty3 ?_
  obtain ⟨y6,hy6,h⟩:=Qbs h
  refine Qcl en78 (C_mcase_ActionIn hy6) ?_
  refine Qv (r_field le_T_api_Action_Params fv168_2 ty165 rfl (look_t rfl) rfl rfl) ?_
  refine Q1 (r_len Try.underlying165) ?_
  refine Qm ?_
  refine Qnx ?_
  refine Wp.block ?_
  obtain ⟨e2,hl,h⟩:=Qbs h
  refine Qlp (γ:=(Option Nat × Nat)) (δ:=(Option Nat × Nat)) hl [0, 1, 2, 4, 6, 7, 8, 26, 27, 28, 29, 68, 69] (fun s2 g3 => [(70, VP.of (s2.1))]) (fun s2 g3 => [(2, ⟨some p3, .varX (s2.2.1 : T_api_Entry) [(1, slv g1.1 e1.2.2.2.1.length g1.2), (4, slv g3.1 s2.2.2.1.length g3.2)]⟩), (3, ⟨g3.1, .row 47 (s2.2.2.1 : List T_api_Value) g3.2⟩), (8, ⟨some pp0, .var (s2.2.2.2 : T_mcase_Codes)⟩)]) (fun q5 => Exit.exit 2) (fun q5 g3 => [(70, VP.of (q5.1)), (71, VP.of (q5.2.1))]) (fun q5 g3 => [(2, ⟨some p3, .varX (q5.2.2.1 : T_api_Entry) [(1, slv g1.1 e1.2.2.2.1.length g1.2), (4, slv g3.1 q5.2.2.2.1.length g3.2)]⟩), (3, ⟨g3.1, .row 47 (q5.2.2.2.1 : List T_api_Value) g3.2⟩), (8, ⟨some pp0, .var (q5.2.2.2.2 : T_mcase_Codes)⟩)]) (none, 0) (fun s2 r h g3 => ?_) fun g3 => ?_
  ·clear hl
   refine Qsr ?_
   refine Q2 r_lss ?_
   refine Qns ?_
   refine Qcd h (fun h=>?_) fun h=>?_
   ·refine Qkn ?_
    refine Wp.seq ?_
    refine Wp.block ?_
    refine Qsr ?_
    obtain ⟨k4,hk4,h⟩:=Qbs h
    refine Qix hk4 Try.underlying165 ty171 ?_
    refine Q1 (r_loadp ty171) ?_
    refine Qal zr171 fun p5 => ?_
    refine Qs0 0 ty171 ?_
    refine Qnx ?_
    obtain ⟨y7,hy7,h⟩:=Qbs h
    obtain ⟨z4,hz4,h⟩:=Qbs h
    obtain ⟨y8,hy8,h⟩:=Qbs h
    obtain ⟨y9,hy9,h⟩:=Qbs h
    refine Qwl [0, 1, 2, 4, 6, 7, 8, 12, 26, 27, 28, 29, 68, 69, 70, 71, 72, 73] ?_
    refine Wp.drawD mixed (Hp 74 [] [] _ :: Hp 75 (0 :: []) (3 :: []) _ :: Hp 76 [] [] _ :: ⟨some 77, (2 :: []), (9 :: []), (9 :: []), fun _ => VP.of (y7.1), fun hd _ => ⟨some pp0, .var (y7.2 : T_mcase_Codes)⟩⟩ :: Hp 78 (3 :: []) [] _ :: Hp 79 (4 :: []) [] _ :: Hp 80 [] [] _ :: Hp 81 (6 :: []) (0 :: []) _ :: Hp 82 (5 :: 7 :: []) [] _ :: Hp 83 (8 :: []) [] _ :: ⟨some 84, (1 :: 9 :: []), (4 :: []), (4 :: []), fun hd => VP.eq (slv (hd 10 0) y9.length ((hd 10 1).getD 0)), fun hd _ => ⟨(hd 10 0), .row 47 (y9 : List T_api_Value) ((hd 10 1).getD 0)⟩⟩ :: Hp 85 [] [] _ :: ⟨none, (1 :: 10 :: 11 :: []), (3 :: []), (3 :: []), fun _ => VP.any, fun hd _ => ⟨some p3, .varX (({ s2.2.1 with f_Args := [] } : T_api_Entry) : T_api_Entry) [(1, slv g1.1 e1.2.2.2.1.length g1.2), (4, slv (hd 10 0) y9.length ((hd 10 1).getD 0))]⟩⟩ :: []) _ (0 :: 1 :: 2 :: 4 :: 6 :: 7 :: 8 :: 12 :: 26 :: 27 :: 28 :: 29 :: 68 :: 69 :: 70 :: 71 :: 72 :: 73 :: []) rfl rfl (by kernel_rfl) ⟨D1 (r_fa fd89_4), Dv fun hd E' L' hE hL => r_loadH (i := 3) (q := 1) (β := T_api_Entry) (γ := T_api_Value) ty72 (look_t (hE _ _ rfl)) (hL 3 _ rfl rfl) rfl, Dm, ?_, D1 (r_ci64 Try.underlying3 Try.underlying45), Dv fun hd E' L' hE hL => (r_build (b := ({ (default : T_api_Value) with f_Lo := BitVec.ofInt 64 y7.1 } : T_api_Value)) rfl bu47 zr47 (.cons le_T_api_Value_Lo rfl (look_t (hE _ _ rfl)) rfl (.nil))).as (some_in hz4), D1 (r_fa fd171_1), Dld 0 le_T_api_Param_Bits ty3, Dv fun hd E' L' hE hL => r_call en79 (C_mcase_Low hy8) ⟨look_t (hE _ _ rfl), look_t (hE _ _ rfl), trivial⟩, Dv fun hd E' L' hE hL => r_bsl (r := [y8]) Try.underlying72 ty47 zr47 rfl rfl (.cons (by simp) (look_t (hE _ _ rfl)) (.nil)), ?_, D1 (r_fa fd89_4), ?_, trivial⟩ fun hd => ?_
    ·intro hd E' L' hE hL
     refine Sq.bring 9 (hL 9 _ rfl rfl) ?_
     refine Sq.callO (Lin := [⟨some pp0, .var (s2.2.2.2 : T_mcase_Codes)⟩]) (Lr := L'.eraseIdx 9) en49 (C_mcase_Codes_Next hy7) ⟨look_t (hE _ _ rfl), look_int 256, trivial⟩ rfl fun q6 => ?_
     refine Sq.nil ?_
     refine To.back 9 (hL 9 _ rfl rfl) ?_
     exact To.fin (gm []) rfl rfl
    ·intro hd E' L' hE hL
     refine Sq.app (i := 4) Try.underlying72 ty47 zr47 (bytes := 16) (by kernel_rfl) (look_t (hE _ _ rfl)) (hL 4 _ rfl rfl) (look_t (hE _ _ rfl)) hy9 rfl fun key2 cap2 => ?_
     refine Sq.nil ?_
     exact To.fin (gm [key2, some cap2]) rfl rfl
    ·intro hd E' L' hE hL
     refine Sq.storeH (i := 3) (γ := T_api_Value) (b' := (({ s2.2.1 with f_Args := [] } : T_api_Entry) : T_api_Entry)) (os' := [(1, slv g1.1 e1.2.2.2.1.length g1.2), (4, slv (hd 10 0) y9.length ((hd 10 1).getD 0))]) ((Lens.id T_api_Entry).comp le_T_api_Entry_Args) ty72 (look_t (hE _ _ rfl)) (look_t (hE _ _ rfl)) slv_one (hL 3 _ rfl rfl) rfl rfl rfl ?_
     refine Sq.nil ?_
     exact To.fin (gm []) rfl rfl
    refine To.eqL (L2 := [⟨some p5, .var (lget y6.f_Params k4 : T_api_Param)⟩, ⟨none, .row 47 (([] : List T_api_Value) : List T_api_Value) 0⟩, ⟨none, .row 104 (([] : List T_api_Match) : List T_api_Match) 0⟩, ⟨some p3, .varX (({ s2.2.1 with f_Args := [] } : T_api_Entry) : T_api_Entry) [(1, slv g1.1 e1.2.2.2.1.length g1.2), (4, slv (hd 10 0) y9.length ((hd 10 1).getD 0))]⟩, ⟨(hd 10 0), .row 47 (y9 : List T_api_Value) ((hd 10 1).getD 0)⟩, ⟨g1.1, .row 104 (e1.2.2.2.1 : List T_api_Match) g1.2⟩, ⟨some (ps1 9), .var (lget x1.f_Tables k1 : T_api_Table)⟩, ⟨some p2, .var ((default : T_api_Entry) : T_api_Entry)⟩, ⟨some p1, .var (x1 : T_api_Schema)⟩, ⟨some pp0, .var (y7.2 : T_mcase_Codes)⟩]) rfl ?_
    refine Qtl [0, 1, 2, 4, 6, 7, 8, 12, 26, 27, 28, 29, 68, 69, 70, 71, 72, 73, 74, 76, 77, 78, 79, 80, 81, 82, 83, 84, 85] ?_
    refine To.bnorm ?_
    refine To.next ?_
    refine Wp.reg ?_
    refine Q2 r_add ?_
    refine Qm ?_
    refine Sq.nil ?_
    obtain rfl:=some_in h
    exact Qrd ((hd 10 0), ((hd 10 1).getD 0)) 1
   ·refine Wp.exit ?_
    refine To.exit ?_
    obtain rfl:=some_in h
    exact Qlv (g3.1, g3.2) 0
  ·clear hl
   refine To.bexit ?_
   refine To.next ?_
   refine Qsr ?_
   refine Sq.thaw (β := T_api_Entry) (γ := T_api_Match) (b' := (({ e2.2.2.1 with f_Matches := e1.2.2.2.1 } : T_api_Entry) : T_api_Entry)) ((Lens.id T_api_Entry).comp le_T_api_Entry_Matches) 2 4 0 rfl rfl rfl rfl rfl rfl ?_
   refine Sq.thaw (β := T_api_Entry) (γ := T_api_Value) (b' := (({ ({ e2.2.2.1 with f_Matches := e1.2.2.2.1 } : T_api_Entry) with f_Args := e2.2.2.2.1 } : T_api_Entry) : T_api_Entry)) ((Lens.id T_api_Entry).comp le_T_api_Entry_Args) 2 3 0 rfl rfl rfl rfl rfl rfl ?_
   refine Sq.fromX 2 rfl ?_
   obtain ⟨z5,hz5,h⟩:=Qbs h
   refine Qn hz5 (r_load (i := 2) (Lens.id T_api_Entry) (r := ({ ({ e2.2.2.1 with f_Matches := e1.2.2.2.1 } : T_api_Entry) with f_Args := e2.2.2.2.1 } : T_api_Entry)) ty89 (look_t rfl) rfl rfl rfl) ?_
   refine Qs0 6 ty89 ?_
   refine Qnx ?_
   refine Wp.ret ?_
   refine To.bring 8 rfl ?_
   obtain rfl:=some_in h
   exact To.endO1 () (.cons_cons _ (List.nil_sublist _)) rfl rfl (rvo_c (i := 7) ty89 rfl rfl)
theorem C_entry_Prefix {x0 : T_api_Schema} {x1 : T_api_Entry}  {r : Int} (h : L_entry_Prefix x0 x1 = some r) : Meets Try.prog 146 [VP.of (x0), VP.of (x1)] (VP.of (r)) := by
 unfold L_entry_Prefix at h
 refine Meets.of Try.func146 rfl Try.ntmps146 rfl fun W A => ?_
 refine Qsr ?_
 refine Qbx fun p1 => ?_
 refine Qbx fun p2 => ?_
 refine Qa ?_
 refine Qnr ?_
 refine Ql0 1 ty33 ?_
 refine Ql0 0 ty89 ?_
 obtain ⟨y1,hy1,h⟩:=Qbs h
 refine Qcl en139 (C_entry_table hy1) ?_
 refine Qm ?_
 refine Qxt ?_
 refine Qxt ?_
 refine Qal zr136 fun p3 => ?_
 refine Qs0 0 ty136 ?_
 refine Qa ?_
 refine Qnr ?_
 refine Q1 (r_fa fd136_2) ?_
 refine Qld 0 le_T_api_Table_Keys ty134 ?_
 obtain ⟨y2,hy2,h⟩:=Qbs h
 refine Qv (r_call en155 (C_slices_IndexFunc_api_Key hy2) ⟨look_t rfl, look_fn1 en179 (fun _ _ => C_entry_Prefix_fn1), trivial⟩) ?_
 refine Qa ?_
 refine Qns ?_
 refine Qsr ?_
 refine Qm ?_
 refine Q1 r_not ?_
 refine Qm ?_
 refine Qg1 r_move ?_
 refine Qg2 r_lss ?_
 refine Qor ?_
 refine Qm ?_
 refine Qg1 r_move ?_
 refine Qg1 (r_fa fd89_1) ?_
 refine Qg (fun hb => r_load (i := 1) ((Lens.id T_api_Entry).comp le_T_api_Entry_Matches) (r := x1.f_Matches) ty87 (look_tc rfl hb) rfl rfl rfl) ?_
 refine Qg1 (r_len Try.underlying87) ?_
 refine Qg2 r_geq ?_
 obtain ⟨z1,hz1,h⟩:=Qbs h
 refine Qn hz1 (r_or (look_t rfl) (look_t rfl) (fun h => h)) ?_
 refine Qnx ?_
 refine Qcd h (fun h=>?_) fun h=>?_
 ·refine Qsr ?_
  refine Qa ?_
  refine Qnx ?_
  refine Wp.ret ?_
  refine To.ret ?_
  obtain rfl:=some_in h
  exact Qe1
 ·refine Qkn ?_
  refine Qsr ?_
  refine Q1 (r_fa fd89_1) ?_
  refine Qld 1 le_T_api_Entry_Matches ty87 ?_
  refine Qm ?_
  obtain ⟨k1,hk1,h⟩:=Qbs h
  refine Qix hk1 Try.underlying87 ty104 ?_
  refine Qfp le_T_api_Match_Prefix fd104_3 ?_
  refine Q1 (r_loadp ty3) ?_
  refine Qa ?_
  refine Qnx ?_
  refine Wp.ret ?_
  obtain rfl:=some_in h
  exact Qe1
theorem C_entry_Covers {x0 : T_api_Match} {x1 : Int} {x2 : Int} {x3 : T_api_Value}  {r : Bool} (h : L_entry_Covers x0 x1 x2 x3 = some r) : Meets Try.prog 140 [VP.of (x0), VP.of (x1), VP.of (x2), VP.of (x3)] (VP.of (r)) := by
 unfold L_entry_Covers at h
 refine Meets.of Try.func140 rfl Try.ntmps140 rfl fun W A => ?_
 refine Qsr ?_
 refine Qbx fun p1 => ?_
 refine Qbx fun p2 => ?_
 refine Qa ?_
 refine Qns ?_
 refine Qsr ?_
 refine Q1 (r_fa fd104_0) ?_
 refine Qld 1 le_T_api_Match_Present ty4 ?_
 refine Q1 r_not ?_
 refine Qnx ?_
 refine Qcd h (fun h=>?_) fun h=>?_
 ·refine Qsr ?_
  refine Qm ?_
  refine Q2 r_geq ?_
  refine Qm ?_
  refine Qg1 r_move ?_
  refine Qg2 r_leq ?_
  refine Qan ?_
  refine Qa ?_
  refine Qnx ?_
  refine Wp.ret ?_
  refine To.ret ?_
  obtain rfl:=some_in h
  exact Qe1
 ·refine Qkn ?_
  refine Wp.seq ?_
  refine Qsr ?_
  refine Qm ?_
  refine Qnx ?_
  refine Wp.block ?_
  refine Qsr ?_
  refine Q2 r_eql ?_
  refine Qa ?_
  refine Qnx ?_
  refine Qcd h (fun h=>?_) fun h=>?_
  ·refine Qsr ?_
   refine Ql0 0 ty47 ?_
   refine Q1 (r_fa fd104_1) ?_
   refine Qld 1 le_T_api_Match_Value ty47 ?_
   refine Q2 (r_eqA eqv47 rfl eqg47 rfl) ?_
   refine Qa ?_
   refine Qnx ?_
   refine Wp.ret ?_
   refine To.bret ?_
   refine To.ret ?_
   obtain rfl:=some_in h
   exact Qe1
  ·refine Qsr ?_
   refine Q2 r_eql ?_
   refine Qa ?_
   refine Qnx ?_
   refine Qcd h (fun h=>?_) fun h=>?_
   ·refine Qsr ?_
    refine Qm ?_
    refine Q1 (r_fa fd104_3) ?_
    refine Qld 1 le_T_api_Match_Prefix ty3 ?_
    obtain ⟨y1,hy1,h⟩:=Qbs h
    refine Qcl en177 (C_value_Leading hy1) ?_
    refine Qal zr47 fun p3 => ?_
    refine Qs0 0 ty47 ?_
    refine Qns ?_
    obtain ⟨y2,hy2,h⟩:=Qbs h
    obtain ⟨y3,hy3,h⟩:=Qbs h
    refine Wp.draw mixed 8 [some 32, some 33, some 34, some 35, some 36, some 37, some 38, some 39] [[], [], [0, 1], [], [3], [], [4, 5], [2, 6]] [.val _, .val _, .val _, .val _, .val _, .val _, .val _, .val _] [false, false, false, false, false, false, false, false] (by kernel_rfl) rfl rfl rfl (fun ps1 => ⟨Hl0 1 ty47, Hl0 0 ty47, Hcl en158 (C_value_And hy2), H1 (r_fa fd104_1), Hld 2 le_T_api_Match_Value ty47, Hl0 0 ty47, Hcl en158 (C_value_And hy3), H2 (r_eqA eqv47 rfl eqg47 rfl), trivial⟩) fun ps1 => ?_
    refine Qa ?_
    refine Qnx ?_
    refine Wp.ret ?_
    refine To.bret ?_
    refine To.ret ?_
    obtain rfl:=some_in h
    exact Qe1
   ·refine Qsr ?_
    refine Q2 r_eql ?_
    refine Qa ?_
    refine Qnx ?_
    refine Qcd h (fun h=>?_) fun h=>?_
    ·refine Wp.seq ?_
     obtain ⟨y4,hy4,h⟩:=Qbs h
     refine Wp.draw mixed 7 [some 42, some 43, some 44, some 45, some 46, some 47, some 48] [[], [], [1], [0, 2], [], [4], [3, 5]] [.val _, .val _, .val _, .val _, .val _, .val _, .val _] [false, false, false, false, false, false, false] (by kernel_rfl) rfl rfl rfl (fun ps2 => ⟨Hl0 0 ty47, H1 (r_fa fd104_2), Hld 1 le_T_api_Match_Mask ty47, Hcl en158 (C_value_And hy4), H1 (r_fa fd104_1), Hld 1 le_T_api_Match_Value ty47, H2 (r_eqA eqv47 rfl eqg47 rfl), trivial⟩) fun ps2 => ?_
     refine Qa ?_
     refine Qnx ?_
     refine Wp.ret ?_
     refine To.bret ?_
     refine To.ret ?_
     obtain rfl:=some_in h
     exact Qe1
    ·refine Qsr ?_
     refine Q2 r_eql ?_
     refine Qa ?_
     refine Qnx ?_
     refine Qcd h (fun h=>?_) fun h=>?_
     ·refine Qsr ?_
      refine Q1 (r_fa fd104_1) ?_
      refine Qld 1 le_T_api_Match_Value ty47 ?_
      refine Ql0 0 ty47 ?_
      obtain ⟨y5,hy5,h⟩:=Qbs h
      refine Qcl en67 (C_value_Compare hy5) ?_
      refine Q2 r_leq ?_
      refine Qm ?_
      refine Qg (fun hb => r_load (i := 0) (Lens.id T_api_Value) (r := x3) ty47 (look_t rfl) rfl rfl rfl) ?_
      refine Qg1 (r_fa fd104_4) ?_
      refine Qg (fun hb => r_load (i := 1) ((Lens.id T_api_Match).comp le_T_api_Match_High) (r := x0.f_High) ty47 (look_tc rfl hb) rfl rfl rfl) ?_
      obtain ⟨y6,hy6,h⟩:=Qbs h
      refine Qg (fun hb => r_call en67 (C_value_Compare (condM_some hy6 hb)) ⟨look_tc rfl hb, look_tc rfl hb, trivial⟩) ?_
      refine Qg2 r_leq ?_
      refine Qan ?_
      refine Qa ?_
      refine Qnx ?_
      refine Wp.ret ?_
      refine To.bret ?_
      refine To.ret ?_
      obtain rfl:=some_in h
      exact Qe1
     ·refine Wp.skip ?_
      refine To.bnorm ?_
      refine To.next ?_
      refine Qsr ?_
      refine Qa ?_
      refine Qnx ?_
      refine Wp.ret ?_
      obtain rfl:=some_in h
      exact Qe1
end Go.Proofs.Ytodajdohokmjnaa

namespace Go.Proofs.Ytodajdohokmjnaa
open Go Gv
set_option linter.unusedVariables false
set_option linter.unusedSimpArgs false
set_option maxRecDepth 100000
set_option maxHeartbeats 2000000
theorem C_mcase_Codes_Schema {x0 : T_mcase_Codes} {pp0 : Nat} {r : T_api_Schema × T_mcase_Codes} (h : L_mcase_Codes_Schema x0 = some r) : MeetsO Try.prog 13 [VP.eq (.pointer (some ⟨pp0, 0, none⟩))] [⟨some pp0, .var (x0 : T_mcase_Codes)⟩] (δ := Unit) (fun d => VP.of (r.1)) (fun d => [⟨some pp0, .var (r.2 : T_mcase_Codes)⟩]) := by
 unfold L_mcase_Codes_Schema at h
 refine MeetsO.of Try.func13 rfl Try.ntmps13 rfl fun W A => ?_
 refine Qsr ?_
 refine Qal zr33 fun p1 => ?_
 refine Qnr ?_
 refine Qm ?_
 refine Sq.bring 1 rfl ?_
 obtain ⟨y1,hy1,h⟩:=Qbs h
 refine QcO 1 en49 (C_mcase_Codes_Next hy1) fun q1 => ?_
 refine Q2 r_add ?_
 refine Qm ?_
 refine Sq.bring 0 rfl ?_
 obtain ⟨y2,hy2,h⟩:=Qbs h
 refine QcO 1 en49 (C_mcase_Codes_Next hy2) fun q2 => ?_
 refine Q2 r_add ?_
 refine Qv (r_buildX (b := ({ (default : T_api_Schema) with f_MaxBatch := w64 (2 + y1.1), f_Budget := w64 (12 + y2.1) } : T_api_Schema)) [5, 7] zh33_5_7 rfl bu33 zr33 (.cons le_T_api_Schema_MaxBatch rfl (look_t rfl) rfl (by rfl) (.cons le_T_api_Schema_Budget rfl (look_t rfl) rfl (by rfl) (.nil)))) ?_
 refine Sq.own (α := T_api_Stage) 131 ?_
 refine Sq.own (α := T_api_Ref) 133 ?_
 refine Sq.allocX (z := (default : T_api_Schema)) [5, 7] zh33_5_7 zr33 rfl fun p2 => ?_
 refine Sq.own (α := T_api_Stage) 131 ?_
 refine Sq.own (α := T_api_Ref) 133 ?_
 refine Sq.storeW (i := 2) ty33 (look_t rfl) (look_t rfl) rfl ?_
 refine Qnr ?_
 obtain ⟨z1,hz1,h⟩:=Qbs h
 refine Qn hz1 (r_build (b := { f_ID := 1, f_Name := ByteArray.mk #[105, 110, 103, 114, 101, 115, 115], f_Bits := 16 : T_api_Field }) rfl bu123 zr123 (.cons le_T_api_Field_ID rfl (look_int 1) rfl (.cons le_T_api_Field_Name rfl (look_str (ByteArray.mk #[105, 110, 103, 114, 101, 115, 115])) rfl (.cons le_T_api_Field_Bits rfl (look_int 16) rfl (.nil))))) ?_
 obtain ⟨z2,hz2,h⟩:=Qbs h
 refine Qn hz2 (r_build (b := { f_ID := 2, f_Name := ByteArray.mk #[101, 103, 114, 101, 115, 115], f_Bits := 16 : T_api_Field }) rfl bu123 zr123 (.cons le_T_api_Field_ID rfl (look_int 2) rfl (.cons le_T_api_Field_Name rfl (look_str (ByteArray.mk #[101, 103, 114, 101, 115, 115])) rfl (.cons le_T_api_Field_Bits rfl (look_int 16) rfl (.nil))))) ?_
 obtain ⟨z3,hz3,h⟩:=Qbs h
 refine Qn hz3 (r_build (b := { f_ID := 3, f_Name := ByteArray.mk #[109, 101, 116, 97], f_Bits := 8 : T_api_Field }) rfl bu123 zr123 (.cons le_T_api_Field_ID rfl (look_int 3) rfl (.cons le_T_api_Field_Name rfl (look_str (ByteArray.mk #[109, 101, 116, 97])) rfl (.cons le_T_api_Field_Bits rfl (look_int 8) rfl (.nil))))) ?_
 refine Qbd bu123 zr123 { f_ID := 4, f_Name := ByteArray.mk #[97], f_Bits := 4 : T_api_Field } (Qfl le_T_api_Field_ID (Qfl le_T_api_Field_Name (Qfl le_T_api_Field_Bits .nil))) ?_
 refine Qbd bu123 zr123 { f_ID := 5, f_Name := ByteArray.mk #[98], f_Bits := 4 : T_api_Field } (Qfl le_T_api_Field_ID (Qfl le_T_api_Field_Name (Qfl le_T_api_Field_Bits .nil))) ?_
 obtain ⟨z4,hz4,h⟩:=Qbs h
 refine Qn hz4 (r_build (b := { f_ID := 6, f_Name := ByteArray.mk #[101], f_Bits := 8 : T_api_Field }) rfl bu123 zr123 (.cons le_T_api_Field_ID rfl (look_int 6) rfl (.cons le_T_api_Field_Name rfl (look_str (ByteArray.mk #[101])) rfl (.cons le_T_api_Field_Bits rfl (look_int 8) rfl (.nil))))) ?_
 obtain ⟨z5,hz5,h⟩:=Qbs h
 refine Qn hz5 (r_build (b := { f_ID := 7, f_Name := ByteArray.mk #[100], f_Bits := 32 : T_api_Field }) rfl bu123 zr123 (.cons le_T_api_Field_ID rfl (look_int 7) rfl (.cons le_T_api_Field_Name rfl (look_str (ByteArray.mk #[100])) rfl (.cons le_T_api_Field_Bits rfl (look_int 32) rfl (.nil))))) ?_
 obtain ⟨z6,hz6,h⟩:=Qbs h
 refine Qn hz6 (r_build (b := { f_ID := 8, f_Name := ByteArray.mk #[102], f_Bits := 12 : T_api_Field }) rfl bu123 zr123 (.cons le_T_api_Field_ID rfl (look_int 8) rfl (.cons le_T_api_Field_Name rfl (look_str (ByteArray.mk #[102])) rfl (.cons le_T_api_Field_Bits rfl (look_int 12) rfl (.nil))))) ?_
 obtain ⟨z7,hz7,h⟩:=Qbs h
 refine Qn hz7 (r_build (b := { f_ID := 9, f_Name := ByteArray.mk #[103], f_Bits := 4 : T_api_Field }) rfl bu123 zr123 (.cons le_T_api_Field_ID rfl (look_int 9) rfl (.cons le_T_api_Field_Name rfl (look_str (ByteArray.mk #[103])) rfl (.cons le_T_api_Field_Bits rfl (look_int 4) rfl (.nil))))) ?_
 obtain ⟨z8,hz8,h⟩:=Qbs h
 refine Qn hz8 (r_bsl (r := [z1, z2, z3, { f_ID := 4, f_Name := ByteArray.mk #[97], f_Bits := 4 : T_api_Field }, { f_ID := 5, f_Name := ByteArray.mk #[98], f_Bits := 4 : T_api_Field }, z4, z5, z6, z7]) Try.underlying24 ty123 zr123 rfl rfl (.cons (by simp) (look_t rfl) (.cons (by simp) (look_t rfl) (.cons (by simp) (look_t rfl) (.cons (by simp) (look_t rfl) (.cons (by simp) (look_t rfl) (.cons (by simp) (look_t rfl) (.cons (by simp) (look_t rfl) (.cons (by simp) (look_t rfl) (.cons (by simp) (look_t rfl) (.nil))))))))))) ?_
 refine Q1 (r_fa fd33_0) ?_
 obtain ⟨z9,hz9,h⟩:=Qbs h
 refine Sq.storeX (i := 2) ((Lens.id T_api_Schema).comp le_T_api_Schema_Fields) (v := (z8 : List T_api_Field)) (b' := (z9 : T_api_Schema)) ty24 (look_t rfl) (look_t rfl) rfl rfl (some_in hz9) (by rfl) ?_
 refine Qnr ?_
 refine Qbl ([4, 5, 6] : List Int) Try.underlying64 ty3 zr3 ?_
 obtain ⟨z10,hz10,h⟩:=Qbs h
 refine Qn hz10 (r_build (b := { f_ID := 1, f_Name := ByteArray.mk #[111, 110, 101], f_Fields := ([4, 5, 6] : List Int) : T_api_Header }) rfl bu125 zr125 (.cons le_T_api_Header_ID rfl (look_int 1) rfl (.cons le_T_api_Header_Name rfl (look_str (ByteArray.mk #[111, 110, 101])) rfl (.cons le_T_api_Header_Fields rfl (look_t rfl) rfl (.nil))))) ?_
 refine Qbl ([7] : List Int) Try.underlying64 ty3 zr3 ?_
 obtain ⟨z11,hz11,h⟩:=Qbs h
 refine Qn hz11 (r_build (b := { f_ID := 2, f_Name := ByteArray.mk #[116, 119, 111], f_Fields := ([7] : List Int) : T_api_Header }) rfl bu125 zr125 (.cons le_T_api_Header_ID rfl (look_int 2) rfl (.cons le_T_api_Header_Name rfl (look_str (ByteArray.mk #[116, 119, 111])) rfl (.cons le_T_api_Header_Fields rfl (look_t rfl) rfl (.nil))))) ?_
 refine Qbl ([8, 9] : List Int) Try.underlying64 ty3 zr3 ?_
 obtain ⟨z12,hz12,h⟩:=Qbs h
 refine Qn hz12 (r_build (b := { f_ID := 3, f_Name := ByteArray.mk #[116, 104, 114, 101, 101], f_Fields := ([8, 9] : List Int) : T_api_Header }) rfl bu125 zr125 (.cons le_T_api_Header_ID rfl (look_int 3) rfl (.cons le_T_api_Header_Name rfl (look_str (ByteArray.mk #[116, 104, 114, 101, 101])) rfl (.cons le_T_api_Header_Fields rfl (look_t rfl) rfl (.nil))))) ?_
 refine Qbl [z10, z11, z12] Try.underlying25 ty125 zr125 ?_
 refine Q1 (r_fa fd33_1) ?_
 refine Sq.storeX (i := 2) ((Lens.id T_api_Schema).comp le_T_api_Schema_Headers) (v := ([z10, z11, z12] : List T_api_Header)) (b' := (({ z9 with f_Headers := [z10, z11, z12] } : T_api_Schema) : T_api_Schema)) ty25 (look_t rfl) (look_t rfl) rfl rfl rfl (by rfl) ?_
 refine Qnr ?_
 refine Qm ?_
 refine Sq.bring 5 rfl ?_
 obtain ⟨y3,hy3,h⟩:=Qbs h
 refine QcO 1 en50 (C_mcase_Codes_states hy3) fun q3 => ?_
 refine Qm ?_
 refine Sq.bring 0 rfl ?_
 obtain ⟨y4,hy4,h⟩:=Qbs h
 refine QcO 1 en51 (C_mcase_Codes_actions hy4) fun q4 => ?_
 refine Qm ?_
 refine Sq.bring 0 rfl ?_
 obtain ⟨y5,hy5,h⟩:=Qbs h
 refine QcO 1 en52 (C_mcase_Codes_tables hy5) fun q5 => ?_
 refine Q1 (r_fa fd33_2) ?_
 obtain ⟨z13,hz13,h⟩:=Qbs h
 refine Sq.storeX (i := 3) ((Lens.id T_api_Schema).comp le_T_api_Schema_States) (v := (y3.1 : List T_api_State)) (b' := (z13 : T_api_Schema)) ty26 (look_t rfl) (look_t rfl) rfl rfl (some_in hz13) (by rfl) ?_
 refine Q1 (r_fa fd33_3) ?_
 refine Sq.storeX (i := 3) ((Lens.id T_api_Schema).comp le_T_api_Schema_Actions) (v := (y4.1 : List T_api_Action)) (b' := (({ z13 with f_Actions := y4.1 } : T_api_Schema) : T_api_Schema)) ty27 (look_t rfl) (look_t rfl) rfl rfl rfl (by rfl) ?_
 refine Q1 (r_fa fd33_4) ?_
 obtain ⟨z14,hz14,h⟩:=Qbs h
 refine Sq.storeX (i := 3) ((Lens.id T_api_Schema).comp le_T_api_Schema_Tables) (v := (y5.1 : List T_api_Table)) (b' := (z14 : T_api_Schema)) ty28 (look_t rfl) (look_t rfl) rfl rfl (some_in hz14) (by rfl) ?_
 refine Qnr ?_
 refine Qm ?_
 refine Q1 (r_fa fd33_4) ?_
 refine Qlx 3 le_T_api_Schema_Tables ty28 ?_
 refine Sq.bring 0 rfl ?_
 obtain ⟨y6,hy6,h⟩:=Qbs h
 refine QcO 1 en53 (C_mcase_Codes_roles hy6) fun q6 => ?_
 refine Q1 (r_fa fd33_6) ?_
 refine Sq.storeX (i := 3) ((Lens.id T_api_Schema).comp le_T_api_Schema_Roles) (v := (y6.1 : List T_api_Role)) (b' := (({ z14 with f_Roles := y6.1 } : T_api_Schema) : T_api_Schema)) ty30 (look_t rfl) (look_t rfl) rfl rfl rfl (by rfl) ?_
 refine Qnr ?_
 refine Qbd bu131 zr131 { f_Table := 1, f_Header := 1 : T_api_Stage } (Qfl le_T_api_Stage_Table (Qfl le_T_api_Stage_Header .nil)) ?_
 refine Qbd bu131 zr131 { f_Table := 2, f_Header := 2 : T_api_Stage } (Qfl le_T_api_Stage_Table (Qfl le_T_api_Stage_Header .nil)) ?_
 refine Qbd bu131 zr131 ({ (default : T_api_Stage) with f_Table := 3 } : T_api_Stage) (Qfl le_T_api_Stage_Table .nil) ?_
 refine Qbd bu131 zr131 { f_Table := 4, f_Header := 3 : T_api_Stage } (Qfl le_T_api_Stage_Table (Qfl le_T_api_Stage_Header .nil)) ?_
 obtain ⟨z15,hz15,h⟩:=Qbs h
 refine Sq.bslN (α := T_api_Stage) (r0 := [{ f_Table := 1, f_Header := 1 : T_api_Stage }, { f_Table := 2, f_Header := 2 : T_api_Stage }, ({ (default : T_api_Stage) with f_Table := 3 } : T_api_Stage), { f_Table := 4, f_Header := 3 : T_api_Stage }]) (r := z15) Try.underlying29 ty131 zr131 rfl rfl (.cons (by simp) (look_t rfl) (.cons (by simp) (look_t rfl) (.cons (by simp) (look_t rfl) (.cons (by simp) (look_t rfl) (.nil))))) (some_in hz15) rfl fun key1 => ?_
 refine Q1 (r_fa fd33_5) ?_
 refine Sq.storeH (i := 4) (γ := T_api_Stage) (b' := (({ ({ z14 with f_Roles := y6.1 } : T_api_Schema) with f_Stages := [] } : T_api_Schema) : T_api_Schema)) (os' := [(5, slv key1 z15.length 4), (7, slv none ([] : List T_api_Ref).length 0)]) ((Lens.id T_api_Schema).comp le_T_api_Schema_Stages) ty29 (look_t rfl) (look_t rfl) slv_one rfl rfl rfl rfl ?_
 refine Qns ?_
 refine Qsr ?_
 refine Qm ?_
 refine Sq.bring 1 rfl ?_
 obtain ⟨y7,hy7,h⟩:=Qbs h
 refine QcO 1 en54 (C_mcase_Codes_Bool hy7) fun q7 => ?_
 refine Qnx ?_
 obtain ⟨m1,hm1,h⟩:=Qbs h
 refine Qcm (γ:=(Option Nat × Nat)) [0, 2, 3, 51] (fun g1 => []) (fun g1 => [(1, ⟨g1.1, .row 131 (m1 : List T_api_Stage) g1.2⟩), (4, ⟨some p2, .varX (({ ({ z14 with f_Roles := y6.1 } : T_api_Schema) with f_Stages := [] } : T_api_Schema) : T_api_Schema) [(5, slv g1.1 m1.length g1.2), (7, slv none ([] : List T_api_Ref).length 0)]⟩)]) (fun g1 => ?_) (fun hm hc => ?_) fun hm hc => ?_
 ·clear hm1
  refine To.next ?_
  refine Wp.seq ?_
  refine Qsr ?_
  refine Qm ?_
  refine Sq.bring 0 rfl ?_
  obtain ⟨y8,hy8,h⟩:=Qbs h
  refine QcO 1 en54 (C_mcase_Codes_Bool hy8) fun q8 => ?_
  refine Qnx ?_
  obtain ⟨m2,hm2,h⟩:=Qbs h
  refine Qcm (γ:=(Option Nat × Nat)) [0, 2, 3, 51, 59] (fun g2 => []) (fun g2 => [(4, ⟨some p2, .varX (m2.1 : T_api_Schema) [(5, slv g1.1 m1.length g1.2), (7, slv g2.1 m2.2.length g2.2)]⟩), (5, ⟨g2.1, .row 133 (m2.2 : List T_api_Ref) g2.2⟩)]) (fun g2 => ?_) (fun hm hc => ?_) fun hm hc => ?_
  ·clear hm2
   refine To.next ?_
   refine Wp.seq ?_
   refine Qsr ?_
   refine Qm ?_
   refine Sq.bring 0 rfl ?_
   obtain ⟨y9,hy9,h⟩:=Qbs h
   refine QcO 1 en54 (C_mcase_Codes_Bool hy9) fun q9 => ?_
   refine Qm ?_
   refine Qg1 (r_fa fd33_4) ?_
   refine Qg (fun hb => r_loadX (i := 4) ((Lens.id T_api_Schema).comp le_T_api_Schema_Tables) (r := m2.1.f_Tables) ty28 (look_tc rfl hb) rfl rfl rfl (by rfl)) ?_
   obtain ⟨k1,hk1,h⟩:=Qbs h
   refine Qg (fun hb => r_ias (k := k1) Try.underlying28 ty136 (look_tc rfl hb) (look_int 2) (idx_some (condM_some hk1 hb))) ?_
   refine Qg (fun hb => r_fap le_T_api_Table_Keys fd136_2 (look_tc rfl hb) rfl rfl) ?_
   refine Qg1 (r_loadp ty134) ?_
   refine Qg1 (r_len Try.underlying134) ?_
   refine Qg2 r_eql ?_
   refine Qan ?_
   refine Qnx ?_
   obtain ⟨m3,hm3,h⟩:=Qbs h
   refine Qcm (γ:=(Option Nat × Nat)) [0, 2, 3, 51, 59, 76] (fun g3 => []) (fun g3 => [(4, ⟨some p2, .varX (m3.1 : T_api_Schema) [(5, slv g1.1 m1.length g1.2), (7, slv g3.1 m3.2.length g3.2)]⟩), (5, ⟨g3.1, .row 133 (m3.2 : List T_api_Ref) g3.2⟩)]) (fun g3 => ?_) (fun hm hc => ?_) fun hm hc => ?_
   ·clear hm3
    refine To.next ?_
    refine Wp.seq ?_
    refine Qsr ?_
    refine Qm ?_
    refine Sq.bring 0 rfl ?_
    obtain ⟨y10,hy10,h⟩:=Qbs h
    refine QcO 1 en54 (C_mcase_Codes_Bool hy10) fun q10 => ?_
    refine Qm ?_
    refine Qg1 (r_fa fd33_4) ?_
    refine Qg (fun hb => r_loadX (i := 4) ((Lens.id T_api_Schema).comp le_T_api_Schema_Tables) (r := m3.1.f_Tables) ty28 (look_tc rfl hb) rfl rfl rfl (by rfl)) ?_
    obtain ⟨k2,hk2,h⟩:=Qbs h
    refine Qg (fun hb => r_ias (k := k2) Try.underlying28 ty136 (look_tc rfl hb) (look_int 3) (idx_some (condM_some hk2 hb))) ?_
    refine Qg (fun hb => r_fap le_T_api_Table_Keys fd136_2 (look_tc rfl hb) rfl rfl) ?_
    refine Qg1 (r_loadp ty134) ?_
    refine Qg1 (r_len Try.underlying134) ?_
    refine Qg2 r_eql ?_
    refine Qan ?_
    refine Qnx ?_
    obtain ⟨m4,hm4,h⟩:=Qbs h
    refine Qcm (γ:=(Option Nat × Nat)) [0, 2, 3, 51, 59, 76, 93] (fun g4 => []) (fun g4 => [(4, ⟨some p2, .varX (m4.1 : T_api_Schema) [(5, slv g1.1 m1.length g1.2), (7, slv g4.1 m4.2.length g4.2)]⟩), (5, ⟨g4.1, .row 133 (m4.2 : List T_api_Ref) g4.2⟩)]) (fun g4 => ?_) (fun hm hc => ?_) fun hm hc => ?_
    ·clear hm4
     refine To.next ?_
     refine Qsr ?_
     refine Sq.thaw (β := T_api_Schema) (γ := T_api_Stage) (b' := (({ m4.1 with f_Stages := m1 } : T_api_Schema) : T_api_Schema)) ((Lens.id T_api_Schema).comp le_T_api_Schema_Stages) 4 1 0 rfl rfl rfl rfl rfl rfl ?_
     refine Sq.thaw (β := T_api_Schema) (γ := T_api_Ref) (b' := (({ ({ m4.1 with f_Stages := m1 } : T_api_Schema) with f_Refs := m4.2 } : T_api_Schema) : T_api_Schema)) ((Lens.id T_api_Schema).comp le_T_api_Schema_Refs) 4 5 0 rfl rfl rfl rfl rfl rfl ?_
     refine Sq.fromX 4 rfl ?_
     obtain ⟨z16,hz16,h⟩:=Qbs h
     refine Qn hz16 (r_load (i := 4) (Lens.id T_api_Schema) (r := ({ ({ m4.1 with f_Stages := m1 } : T_api_Schema) with f_Refs := m4.2 } : T_api_Schema)) ty33 (look_t rfl) rfl rfl rfl) ?_
     refine Qs0 7 ty33 ?_
     refine Qnx ?_
     refine Wp.ret ?_
     refine To.bring 0 rfl ?_
     obtain rfl:=some_in h
     exact To.endO1 () (.cons_cons _ (List.nil_sublist _)) rfl rfl (rvo_c (i := 7) ty33 rfl rfl)
    ·have h := cond_t hc hm4
     refine Wp.reg ?_
     refine Q1 (r_fa fd33_7) ?_
     refine Qv (r_loadH (i := 4) (q := 1) (β := T_api_Schema) (γ := T_api_Ref) ty31 (look_t rfl) rfl rfl) ?_
     obtain ⟨z17,hz17,h⟩:=Qbs h
     refine Qn hz17 (r_build (b := ({ (default : T_api_Ref) with f_Table := 4, f_Key := 1, f_ToTable := 1 } : T_api_Ref)) rfl bu133 zr133 (.cons le_T_api_Ref_Table rfl (look_int 4) rfl (.cons le_T_api_Ref_Key rfl (look_int 1) rfl (.cons le_T_api_Ref_ToTable rfl (look_int 1) rfl (.nil))))) ?_
     obtain ⟨z18,hz18,h⟩:=Qbs h
     refine Qn hz18 (r_build (b := ({ (default : T_api_Ref) with f_Table := 4, f_Action := 5, f_ToTable := 1 } : T_api_Ref)) rfl bu133 zr133 (.cons le_T_api_Ref_Table rfl (look_int 4) rfl (.cons le_T_api_Ref_Action rfl (look_int 5) rfl (.cons le_T_api_Ref_ToTable rfl (look_int 1) rfl (.nil))))) ?_
     refine Qbl [z17, z18] Try.underlying31 ty133 zr133 ?_
     obtain ⟨y11,hy11,h⟩:=Qbs h
     refine Qap 5 Try.underlying31 ty133 zr133 hy11 fun key2 cap1 => ?_
     refine Q1 (r_fa fd33_7) ?_
     refine Sq.storeH (i := 4) (γ := T_api_Ref) (b' := (({ m3.1 with f_Refs := [] } : T_api_Schema) : T_api_Schema)) (os' := [(5, slv g1.1 m1.length g1.2), (7, slv key2 y11.length cap1)]) ((Lens.id T_api_Schema).comp le_T_api_Schema_Refs) ty31 (look_t rfl) (look_t rfl) slv_one rfl rfl rfl rfl ?_
     refine Sq.nil ?_
     obtain rfl:=some_in h
     exact Qmt 0 (hm (key2, cap1))
    ·have h := cond_f hc hm4
     refine Wp.skip ?_
     obtain rfl:=some_in h
     exact Qmt 0 (hm (g3.1, g3.2))
   ·have h := cond_t hc hm3
    refine Wp.reg ?_
    refine Q1 (r_fa fd33_7) ?_
    refine Qv (r_loadH (i := 4) (q := 1) (β := T_api_Schema) (γ := T_api_Ref) ty31 (look_t rfl) rfl rfl) ?_
    obtain ⟨z19,hz19,h⟩:=Qbs h
    refine Qn hz19 (r_build (b := ({ (default : T_api_Ref) with f_Table := 3, f_Key := 2, f_ToTable := 1 } : T_api_Ref)) rfl bu133 zr133 (.cons le_T_api_Ref_Table rfl (look_int 3) rfl (.cons le_T_api_Ref_Key rfl (look_int 2) rfl (.cons le_T_api_Ref_ToTable rfl (look_int 1) rfl (.nil))))) ?_
    refine Qbl [z19] Try.underlying31 ty133 zr133 ?_
    obtain ⟨y12,hy12,h⟩:=Qbs h
    refine Qap 5 Try.underlying31 ty133 zr133 hy12 fun key3 cap2 => ?_
    refine Q1 (r_fa fd33_7) ?_
    refine Sq.storeH (i := 4) (γ := T_api_Ref) (b' := (({ m2.1 with f_Refs := [] } : T_api_Schema) : T_api_Schema)) (os' := [(5, slv g1.1 m1.length g1.2), (7, slv key3 y12.length cap2)]) ((Lens.id T_api_Schema).comp le_T_api_Schema_Refs) ty31 (look_t rfl) (look_t rfl) slv_one rfl rfl rfl rfl ?_
    refine Sq.nil ?_
    obtain rfl:=some_in h
    exact Qmt 0 (hm (key3, cap2))
   ·have h := cond_f hc hm3
    refine Wp.skip ?_
    obtain rfl:=some_in h
    exact Qmt 0 (hm (g2.1, g2.2))
  ·have h := cond_t hc hm2
   refine Wp.reg ?_
   refine Q1 (r_fa fd33_7) ?_
   refine Qv (r_loadH (i := 4) (q := 1) (β := T_api_Schema) (γ := T_api_Ref) ty31 (look_t rfl) rfl rfl) ?_
   obtain ⟨z20,hz20,h⟩:=Qbs h
   refine Qn hz20 (r_build (b := ({ (default : T_api_Ref) with f_Table := 2, f_Action := 4, f_ToTable := 1 } : T_api_Ref)) rfl bu133 zr133 (.cons le_T_api_Ref_Table rfl (look_int 2) rfl (.cons le_T_api_Ref_Action rfl (look_int 4) rfl (.cons le_T_api_Ref_ToTable rfl (look_int 1) rfl (.nil))))) ?_
   refine Qbl [z20] Try.underlying31 ty133 zr133 ?_
   obtain ⟨y13,hy13,h⟩:=Qbs h
   refine Qap 5 Try.underlying31 ty133 zr133 hy13 fun key4 cap3 => ?_
   refine Q1 (r_fa fd33_7) ?_
   refine Sq.storeH (i := 4) (γ := T_api_Ref) (b' := (({ ({ ({ z14 with f_Roles := y6.1 } : T_api_Schema) with f_Stages := [] } : T_api_Schema) with f_Refs := [] } : T_api_Schema) : T_api_Schema)) (os' := [(5, slv g1.1 m1.length g1.2), (7, slv key4 y13.length cap3)]) ((Lens.id T_api_Schema).comp le_T_api_Schema_Refs) ty31 (look_t rfl) (look_t rfl) slv_one rfl rfl rfl rfl ?_
   refine Sq.nil ?_
   obtain rfl:=some_in h
   exact Qmt 0 (hm (key4, cap3))
  ·have h := cond_f hc hm2
   refine Wp.skip ?_
   obtain rfl:=some_in h
   exact Qmt 0 (hm (none, 0))
 ·have h := cond_t hc hm1
  refine Wp.reg ?_
  refine Q1 (r_fa fd33_5) ?_
  refine Qv (r_loadH (i := 4) (q := 0) (β := T_api_Schema) (γ := T_api_Stage) ty29 (look_t rfl) rfl rfl) ?_
  refine Qbd bu131 zr131 ({ (default : T_api_Stage) with f_Table := 1 } : T_api_Stage) (Qfl le_T_api_Stage_Table .nil) ?_
  refine Qbl [({ (default : T_api_Stage) with f_Table := 1 } : T_api_Stage)] Try.underlying29 ty131 zr131 ?_
  obtain ⟨y14,hy14,h⟩:=Qbs h
  refine Qap 1 Try.underlying29 ty131 zr131 hy14 fun key5 cap4 => ?_
  refine Q1 (r_fa fd33_5) ?_
  refine Sq.storeH (i := 4) (γ := T_api_Stage) (b' := (({ ({ z14 with f_Roles := y6.1 } : T_api_Schema) with f_Stages := [] } : T_api_Schema) : T_api_Schema)) (os' := [(5, slv key5 y14.length cap4), (7, slv none ([] : List T_api_Ref).length 0)]) ((Lens.id T_api_Schema).comp le_T_api_Schema_Stages) ty29 (look_t rfl) (look_t rfl) slv_one rfl rfl rfl rfl ?_
  refine Sq.nil ?_
  obtain rfl:=some_in h
  exact Qmt 0 (hm (key5, cap4))
 ·have h := cond_f hc hm1
  refine Wp.skip ?_
  obtain rfl:=some_in h
  exact Qmt 0 (hm (key1, 4))
theorem C_entry_Beats {x0 : T_api_Schema} {x1 : T_api_Installed} {x2 : T_api_Installed}  {r : Bool} (h : L_entry_Beats x0 x1 x2 = some r) : Meets Try.prog 119 [VP.of (x0), VP.of (x1), VP.of (x2)] (VP.of (r)) := by
 unfold L_entry_Beats at h
 refine Meets.of Try.func119 rfl Try.ntmps119 rfl fun W A => ?_
 refine Qsr ?_
 refine Qbx fun p1 => ?_
 refine Qbx fun p2 => ?_
 refine Qbx fun p3 => ?_
 refine Qa ?_
 refine Qns ?_
 obtain ⟨y1,hy1,h⟩:=Qbs h
 obtain ⟨y2,hy2,h⟩:=Qbs h
 obtain ⟨y3,hy3,h⟩:=Qbs h
 obtain ⟨y4,hy4,h⟩:=Qbs h
 obtain ⟨y5,hy5,h⟩:=Qbs h
 obtain ⟨y6,hy6,h⟩:=Qbs h
 refine Wp.draw mixed 24 ((some 7) :: (some 8) :: (some 9) :: (some 10) :: (some 11) :: (some 12) :: (some 13) :: (some 14) :: (some 15) :: (some 16) :: (some 17) :: (some 18) :: (some 19) :: (some 20) :: (some 21) :: (some 22) :: (some 23) :: (some 24) :: (some 25) :: (some 26) :: (some 27) :: (some 28) :: (some 29) :: (some 30) :: []) ([] :: [0] :: [1] :: [] :: [3] :: [4] :: [2, 5] :: [] :: [] :: [8] :: [7, 9] :: [] :: [] :: [12] :: [11, 13] :: [10, 14] :: [] :: [16] :: [] :: [18] :: [17, 19] :: [6, 15, 20] :: [21] :: [22] :: []) (.val _ :: .val _ :: .val _ :: .val _ :: .val _ :: .val _ :: .val _ :: .val _ :: .val _ :: .val _ :: .val _ :: .val _ :: .val _ :: .val _ :: .val _ :: .val _ :: .val _ :: .val _ :: .val _ :: .val _ :: .val _ :: .val _ :: .val _ :: .val _ :: []) (false :: false :: false :: false :: false :: false :: false :: false :: false :: false :: false :: false :: false :: false :: false :: false :: false :: false :: false :: false :: false :: false :: false :: false :: []) (by kernel_rfl) rfl rfl rfl (fun ps1 => ⟨H1 (r_fa fd92_0), H1 (r_fa fd89_2), Hld 1 (le_T_api_Installed_Entry.comp le_T_api_Entry_Priority) ty3, H1 (r_fa fd92_0), H1 (r_fa fd89_2), Hld 0 (le_T_api_Installed_Entry.comp le_T_api_Entry_Priority) ty3, Hcl en145 (C_cmp_Compare_int hy1), Hl0 2 ty33, H1 (r_fa fd92_0), Hld 1 le_T_api_Installed_Entry ty89, Hcl en146 (C_entry_Prefix hy2), Hl0 2 ty33, H1 (r_fa fd92_0), Hld 0 le_T_api_Installed_Entry ty89, Hcl en146 (C_entry_Prefix hy3), Hcl en145 (C_cmp_Compare_int hy4), H1 (r_fa fd92_1), Hld 1 le_T_api_Installed_Number ty3, H1 (r_fa fd92_1), Hld 0 le_T_api_Installed_Number ty3, Hcl en145 (C_cmp_Compare_int hy5), Hv fun L' hL => r_bsl (r := [y1, y4, y5]) Try.underlying64 ty3 zr3 rfl rfl (.cons (by simp) (look_t rfl) (.cons (by simp) (look_t rfl) (.cons (by simp) (look_t rfl) (.nil)))), Hcl en144 (C_entry_first hy6), H2 r_gtr, trivial⟩) fun ps1 => ?_
 refine Qa ?_
 refine Qnx ?_
 refine Wp.ret ?_
 obtain rfl:=some_in h
 exact Qe1
end Go.Proofs.Ytodajdohokmjnaa

namespace Go.Proofs.Ytodajdohokmjnaa
open Go Gv
set_option linter.unusedVariables false
set_option linter.unusedSimpArgs false
set_option maxRecDepth 100000
set_option maxHeartbeats 2000000
theorem C_ref04_KeyBits {x0 : T_api_Schema} {x1 : T_api_Table} {x2 : Int}  {r : Int} (h : L_ref04_KeyBits x0 x1 x2 = some r) : Meets Try.prog 88 [VP.of (x0), VP.of (x1), VP.of (x2)] (VP.of (r)) := by
 unfold L_ref04_KeyBits at h
 refine Meets.of Try.func88 rfl Try.ntmps88 rfl fun W A => ?_
 refine Qsr ?_
 refine Qbx fun p1 => ?_
 refine Qbx fun p2 => ?_
 refine Qa ?_
 refine Qns ?_
 obtain ⟨k1,hk1,h⟩:=Qbs h
 obtain ⟨y1,hy1,h⟩:=Qbs h
 refine Wp.draw mixed 8 [some 7, some 8, some 9, some 10, some 11, some 12, some 13, some 14] [[], [], [1], [], [2, 3], [4], [5], [0, 6]] [.val _, .val _, .val _, .val _, .val _, .val _, .val _, .val _] [false, false, false, false, false, false, false, false] (by kernel_rfl) rfl rfl rfl (fun ps1 => ⟨Hl0 1 ty33, H1 (r_fa fd136_2), Hld 0 le_T_api_Table_Keys ty134, Hm, Hix hk1 Try.underlying134 ty163, Hfp le_T_api_Key_Field fd163_1, H1 (r_loadp ty3), Hcl en123 (C_ref04_Bits hy1), trivial⟩) fun ps1 => ?_
 refine Qa ?_
 refine Qnx ?_
 refine Wp.ret ?_
 obtain rfl:=some_in h
 exact Qe1
theorem C_ref10_matches {x0 : List T_api_Match} {x1 : List T_api_Match}  {r : Int} (h : L_ref10_matches x0 x1 = some r) : Meets Try.prog 151 [VP.of (x0), VP.of (x1)] (VP.of (r)) := by
 unfold L_ref10_matches at h
 refine Meets.of Try.func151 rfl Try.ntmps151 rfl fun W A => ?_
 refine Qsr ?_
 refine Qa ?_
 refine Qns ?_
 refine Qsr ?_
 refine Qa ?_
 refine Qnx ?_
 refine Wp.block ?_
 obtain ⟨e1,hl,h⟩:=Qbs h
 refine Qlp (γ:=Unit) (δ:=Unit) hl [0, 1] (fun s1 g1 => [(4, VP.of (0 : Int)), (5, VP.of (s1))]) (fun s1 g1 => []) (fun q1 => Sum.elim (fun q1 => Exit.exit 0) (fun q1 => Exit.ret) q1) (fun q1 g1 => Sum.elim (fun q1 => [(4, VP.of (0 : Int)), (5, VP.of (q1.1)), (16, VP.of (q1.2))]) (fun q1 => [(4, VP.of (q1.1)), (5, VP.of (q1.2.1)), (6, VP.of (q1.2.2.1)), (16, VP.of (q1.2.2.2.1)), (29, VP.of (q1.2.2.2.2))]) q1) (fun q1 g1 => Sum.elim (fun q1 => []) (fun q1 => []) q1) () (fun s1 r h g1 => ?_) fun g1 => ?_
 ·clear hl
  refine Wp.seq ?_
  refine Qsr ?_
  refine Qm ?_
  refine Qm ?_
  refine Q1 (r_len Try.underlying87) ?_
  refine Q2 r_lss ?_
  refine Qm ?_
  refine Qg1 r_move ?_
  refine Qg1 r_move ?_
  refine Qg1 (r_len Try.underlying87) ?_
  refine Qg2 r_lss ?_
  refine Qan ?_
  refine Qnx ?_
  refine Qcd h (fun h=>?_) fun h=>?_
  ·refine Qkn ?_
   refine Wp.seq ?_
   refine Wp.block ?_
   refine Wp.seq ?_
   obtain ⟨k1,hk1,h⟩:=Qbs h
   obtain ⟨k2,hk2,h⟩:=Qbs h
   obtain ⟨y1,hy1,h⟩:=Qbs h
   refine Wp.draw mixed 9 [some 19, some 20, some 21, some 22, some 23, some 24, some 25, some 26, some 27] [[], [], [0, 1], [2], [], [], [4, 5], [6], [3, 7]] [.val _, .val _, .val _, .val _, .val _, .val _, .val _, .val _, .val _] [false, false, false, false, false, false, false, false, false] (by kernel_rfl) rfl rfl rfl (fun ps1 => ⟨Hm, Hm, Hix hk1 Try.underlying87 ty104, H1 (r_loadp ty104), Hm, Hm, Hix hk2 Try.underlying87 ty104, H1 (r_loadp ty104), Hcl en181 (C_ref10_match hy1), trivial⟩) fun ps1 => ?_
   refine Qa ?_
   refine Qnr ?_
   refine Qm ?_
   refine Q2 r_neq ?_
   refine Qnx ?_
   refine Qcd h (fun h=>?_) fun h=>?_
   ·refine Qsr ?_
    refine Qm ?_
    refine Qa ?_
    refine Qnx ?_
    refine Wp.ret ?_
    refine To.bret ?_
    refine To.ret ?_
    obtain rfl:=some_in h
    exact Qlv () 0
   ·refine Wp.skip ?_
    refine To.bnorm ?_
    refine To.next ?_
    refine Wp.reg ?_
    refine Qm ?_
    refine Q2 r_add ?_
    refine Qa ?_
    refine Sq.nil ?_
    obtain rfl:=some_in h
    exact Qrd () 0
  ·refine Wp.exit ?_
   refine To.exit ?_
   obtain rfl:=some_in h
   exact Qlv () 0
 ·clear hl
  rcases e1 with e1 | e1
  ·simp only [Sum.elim_inl] at h
   refine To.bexit ?_
   refine To.next ?_
   refine Qsr ?_
   refine Qm ?_
   refine Q1 (r_len Try.underlying87) ?_
   refine Qm ?_
   refine Q1 (r_len Try.underlying87) ?_
   obtain ⟨y2,hy2,h⟩:=Qbs h
   refine Qcl en150 (C_ref10_number hy2) ?_
   refine Qa ?_
   refine Qnx ?_
   refine Wp.ret ?_
   obtain rfl:=some_in h
   exact Qe1
  ·simp only [Sum.elim_inr] at h
   refine To.bret ?_
   refine To.ret ?_
   obtain rfl:=some_in h
   exact Qe1
theorem Cl0_own_List {x0 : List T_api_Installed} {key00 : Option Nat} {cap00 : Nat} {r : (List T_api_Installed)} (h : Ll0_own_List x0 = some r) : MeetsO Try.prog 93 [VP.eq (slv key00 x0.length cap00)] [⟨key00, .row 92 (x0 : List T_api_Installed) cap00⟩] (δ := Unit) (fun d => VP.of (r)) (fun d => [⟨key00, .row 92 (x0 : List T_api_Installed) cap00⟩]) := by
 unfold Ll0_own_List at h
 refine MeetsO.of Try.func93 rfl Try.ntmps93 rfl fun W A => ?_
 refine Qsr ?_
 refine Qv (r_asg (look_nil (α := T_api_Installed))) ?_
 refine Qnr ?_
 refine Sq.own (α := T_api_Installed) 92 ?_
 refine Qv (r_asg look_own) ?_
 refine Qns ?_
 refine Qsr ?_
 refine Qm ?_
 refine Qv (r_lenO (i := 1) Try.underlying84 (look_t rfl) rfl rfl) ?_
 refine Qm ?_
 refine Qnx ?_
 refine Wp.block ?_
 obtain ⟨e1,hl,h⟩:=Qbs h
 refine Qlp (γ:=(Option Nat × Nat)) (δ:=(Option Nat × Nat)) hl [0, 2, 6, 7] (fun s1 g1 => [(3, VP.eq (slv g1.1 s1.2.length g1.2)), (8, VP.of (s1.1))]) (fun s1 g1 => [(0, ⟨g1.1, .row 92 (s1.2 : List T_api_Installed) g1.2⟩)]) (fun q1 => Exit.exit 0) (fun q1 g1 => [(3, VP.eq (slv g1.1 q1.2.2.length g1.2)), (8, VP.of (q1.1)), (9, VP.of (q1.2.1))]) (fun q1 g1 => [(0, ⟨g1.1, .row 92 (q1.2.2 : List T_api_Installed) g1.2⟩)]) (none, 0) (fun s1 r h g1 => ?_) fun g1 => ?_
 ·clear hl
  refine Qsr ?_
  refine Q2 r_lss ?_
  refine Qns ?_
  refine Qcd h (fun h=>?_) fun h=>?_
  ·refine Qkn ?_
   refine Wp.seq ?_
   refine Wp.block ?_
   refine Qsr ?_
   obtain ⟨k1,hk1,h⟩:=Qbs h
   refine Qv (r_iaO (i := 1) (k := k1) (xs := (x0 : List T_api_Installed)) Try.underlying84 ty92 (look_t rfl) (look_t rfl) rfl (idx_some hk1)) ?_
   refine Qv (r_loadR (i := 1) (k := k1) (Lens.id T_api_Installed) (r := (lget x0 k1)) ty92 (look_t rfl) rfl (idx_some hk1).1 rfl rfl) ?_
   refine Qal zr92 fun p1 => ?_
   refine Qs0 0 ty92 ?_
   refine Qnx ?_
   refine Wp.reg ?_
   refine Qm ?_
   refine Ql0 0 ty92 ?_
   obtain ⟨y1,hy1,h⟩:=Qbs h
   refine Qcl en81 (C_own_Installed hy1) ?_
   refine Qbl [y1] Try.underlying84 ty92 zr92 ?_
   obtain ⟨y2,hy2,h⟩:=Qbs h
   refine Qap 1 Try.underlying84 ty92 zr92 hy2 fun key1 cap1 => ?_
   refine Qa ?_
   refine Sq.nil ?_
   refine To.bnorm ?_
   refine To.next ?_
   refine Wp.reg ?_
   refine Q2 r_add ?_
   refine Qm ?_
   refine Sq.nil ?_
   obtain rfl:=some_in h
   exact Qrd (key1, cap1) 1
  ·refine Wp.exit ?_
   refine To.exit ?_
   obtain rfl:=some_in h
   exact Qlv (g1.1, g1.2) 0
 ·clear hl
  refine To.bexit ?_
  refine To.next ?_
  refine Qsr ?_
  refine Qm ?_
  refine Qa ?_
  refine Qnx ?_
  refine Wp.ret ?_
  refine To.freezeL (α := T_api_Installed) 0 [2, 3, 18] ⟨rfl, rfl, rfl, trivial⟩ rfl ?_
  refine To.bring 1 rfl ?_
  obtain rfl:=some_in h
  exact Qo1 ()
theorem C_ref10_Beats {x0 : T_api_Schema} {x1 : T_api_Installed} {x2 : T_api_Installed}  {r : Bool} (h : L_ref10_Beats x0 x1 x2 = some r) : Meets Try.prog 94 [VP.of (x0), VP.of (x1), VP.of (x2)] (VP.of (r)) := by
 unfold L_ref10_Beats at h
 refine Meets.of Try.func94 rfl Try.ntmps94 rfl fun W A => ?_
 refine Qsr ?_
 refine Qbx fun p1 => ?_
 refine Qbx fun p2 => ?_
 refine Qbx fun p3 => ?_
 refine Qa ?_
 refine Qns ?_
 refine Qsr ?_
 refine Q1 (r_fa fd92_0) ?_
 refine Q1 (r_fa fd89_2) ?_
 refine Qld 1 (le_T_api_Installed_Entry.comp le_T_api_Entry_Priority) ty3 ?_
 refine Q1 (r_fa fd92_0) ?_
 refine Q1 (r_fa fd89_2) ?_
 refine Qld 0 (le_T_api_Installed_Entry.comp le_T_api_Entry_Priority) ty3 ?_
 refine Q2 r_neq ?_
 refine Qnx ?_
 refine Qcd h (fun h=>?_) fun h=>?_
 ·refine Qsr ?_
  refine Q1 (r_fa fd92_0) ?_
  refine Q1 (r_fa fd89_2) ?_
  refine Qld 1 (le_T_api_Installed_Entry.comp le_T_api_Entry_Priority) ty3 ?_
  refine Q1 (r_fa fd92_0) ?_
  refine Q1 (r_fa fd89_2) ?_
  refine Qld 0 (le_T_api_Installed_Entry.comp le_T_api_Entry_Priority) ty3 ?_
  refine Q2 r_gtr ?_
  refine Qa ?_
  refine Qnx ?_
  refine Wp.ret ?_
  refine To.ret ?_
  obtain rfl:=some_in h
  exact Qe1
 ·refine Qkn ?_
  refine Wp.seq ?_
  refine Wp.seq ?_
  obtain ⟨y1,hy1,h⟩:=Qbs h
  obtain ⟨y2,hy2,h⟩:=Qbs h
  refine Wp.draw mixed 8 [some 23, some 24, some 25, some 26, some 27, some 28, some 29, some 30] [[], [], [1], [0, 2], [], [], [5], [4, 6]] [.val _, .val _, .val _, .val _, .val _, .val _, .val _, .val _] [false, false, false, false, false, false, false, false] (by kernel_rfl) rfl rfl rfl (fun ps1 => ⟨Hl0 2 ty33, H1 (r_fa fd92_0), Hld 1 le_T_api_Installed_Entry ty89, Hcl en134 (C_ref10_Prefix hy1), Hl0 2 ty33, H1 (r_fa fd92_0), Hld 0 le_T_api_Installed_Entry ty89, Hcl en134 (C_ref10_Prefix hy2), trivial⟩) fun ps1 => ?_
  refine Qa ?_
  refine Qa ?_
  refine Qnr ?_
  refine Qm ?_
  refine Qm ?_
  refine Q2 r_neq ?_
  refine Qnx ?_
  refine Qcd h (fun h=>?_) fun h=>?_
  ·refine Qsr ?_
   refine Qm ?_
   refine Qm ?_
   refine Q2 r_gtr ?_
   refine Qa ?_
   refine Qnx ?_
   refine Wp.ret ?_
   refine To.ret ?_
   obtain rfl:=some_in h
   exact Qe1
  ·refine Qkn ?_
   refine Qsr ?_
   refine Q1 (r_fa fd92_1) ?_
   refine Qld 1 le_T_api_Installed_Number ty3 ?_
   refine Q1 (r_fa fd92_1) ?_
   refine Qld 0 le_T_api_Installed_Number ty3 ?_
   refine Q2 r_gtr ?_
   refine Qa ?_
   refine Qnx ?_
   refine Wp.ret ?_
   obtain rfl:=some_in h
   exact Qe1
end Go.Proofs.Ytodajdohokmjnaa

namespace Go.Proofs.Ytodajdohokmjnaa
open Go Gv
set_option linter.unusedVariables false
set_option linter.unusedSimpArgs false
set_option maxRecDepth 100000
set_option maxHeartbeats 2000000
theorem C_entry_Matches {x0 : T_api_Schema} {x1 : T_api_Entry} {x2 : Vector T_api_Value 4}  {r : Bool} (h : L_entry_Matches x0 x1 x2 = some r) : Meets Try.prog 115 [VP.of (x0), VP.of (x1), VP.of (x2)] (VP.of (r)) := by
 unfold L_entry_Matches at h
 refine Meets.of Try.func115 rfl Try.ntmps115 rfl fun W A => ?_
 refine Qsr ?_
 refine Qbx fun p1 => ?_
 refine Qbx fun p2 => ?_
 refine Qbx fun p3 => ?_
 refine Qa ?_
 refine Qnr ?_
 refine Ql0 2 ty33 ?_
 refine Ql0 1 ty89 ?_
 obtain ⟨y1,hy1,h⟩:=Qbs h
 refine Qcl en139 (C_entry_table hy1) ?_
 refine Qm ?_
 refine Qxt ?_
 refine Qxt ?_
 refine Qal zr136 fun p4 => ?_
 refine Qs0 0 ty136 ?_
 refine Qa ?_
 refine Qns ?_
 refine Qsr ?_
 refine Qm ?_
 refine Q1 r_not ?_
 refine Qnx ?_
 refine Qcd h (fun h=>?_) fun h=>?_
 ·refine Qsr ?_
  refine Qa ?_
  refine Qnx ?_
  refine Wp.ret ?_
  refine To.ret ?_
  obtain rfl:=some_in h
  exact Qe1
 ·refine Qkn ?_
  refine Wp.seq ?_
  refine Qsr ?_
  refine Q1 (r_fa fd136_2) ?_
  refine Qld 0 le_T_api_Table_Keys ty134 ?_
  refine Q1 (r_len Try.underlying134) ?_
  refine Qm ?_
  refine Qnx ?_
  refine Wp.block ?_
  obtain ⟨e1,hl,h⟩:=Qbs h
  refine Qlp (γ:=Unit) (δ:=Unit) hl [0, 1, 2, 3, 4, 5, 6, 7, 8, 18, 20, 21] (fun s1 g1 => [(22, VP.of (s1))]) (fun s1 g1 => []) (fun q1 => Sum.elim (fun q1 => Exit.exit 0) (fun q1 => Exit.ret) q1) (fun q1 g1 => Sum.elim (fun q1 => [(22, VP.of (q1.1)), (23, VP.of (q1.2))]) (fun q1 => [(9, VP.of (q1.1)), (22, VP.of (q1.2.1)), (23, VP.of (q1.2.2.1)), (52, VP.of (q1.2.2.2))]) q1) (fun q1 g1 => Sum.elim (fun q1 => []) (fun q1 => []) q1) () (fun s1 r h g1 => ?_) fun g1 => ?_
  ·clear hl
   refine Qsr ?_
   refine Q2 r_lss ?_
   refine Qns ?_
   refine Qcd h (fun h=>?_) fun h=>?_
   ·refine Qkn ?_
    refine Wp.seq ?_
    refine Wp.block ?_
    refine Qsr ?_
    refine Qm ?_
    obtain ⟨k1,hk1,h⟩:=Qbs h
    refine Qix hk1 Try.underlying134 ty163 ?_
    refine Q1 (r_loadp ty163) ?_
    refine Qal zr163 fun p5 => ?_
    refine Qa ?_
    refine Qs0 0 ty163 ?_
    refine Qns ?_
    obtain ⟨k2,hk2,h⟩:=Qbs h
    obtain ⟨y2,hy2,h⟩:=Qbs h
    obtain ⟨k3,hk3,h⟩:=Qbs h
    obtain ⟨y3,hy3,h⟩:=Qbs h
    obtain ⟨z1,hz1,h⟩:=Qbs h
    refine Wp.draw mixed 26 ((some 27) :: (some 28) :: (some 29) :: (some 30) :: (some 31) :: (some 32) :: (some 33) :: (some 34) :: (some 35) :: (some 36) :: (some 37) :: (some 38) :: (some 39) :: (some 40) :: (some 41) :: (some 42) :: (some 43) :: (some 44) :: (some 45) :: (some 46) :: (some 47) :: (some 48) :: (some 49) :: (some 50) :: (some 51) :: (some 52) :: []) ([] :: [] :: [1] :: [2] :: [0, 3] :: [4] :: [5] :: [5, 6] :: [5, 7] :: [8] :: [9] :: [9, 10] :: [9] :: [9, 11, 12] :: [9, 13] :: [9] :: [9, 15] :: [9] :: [9] :: [9, 17, 18] :: [9] :: [9, 20] :: [9, 21] :: [9, 14, 16, 19, 22] :: [9, 23] :: [9, 24] :: []) (.val _ :: .val _ :: .val _ :: .val _ :: .val _ :: .val _ :: .val _ :: .val _ :: .val _ :: .val _ :: .val _ :: .val _ :: .val _ :: .val _ :: .val _ :: .val _ :: .val _ :: .val _ :: .val _ :: .val _ :: .val _ :: .val _ :: .val _ :: .val _ :: .val _ :: .val _ :: []) (false :: false :: false :: false :: false :: false :: false :: false :: false :: false :: false :: false :: false :: false :: false :: false :: false :: false :: false :: false :: false :: false :: false :: false :: false :: false :: []) (by kernel_rfl) rfl rfl rfl (fun ps1 => ⟨Hm, H1 (r_fa fd89_1), Hld 3 le_T_api_Entry_Matches ty87, H1 (r_len Try.underlying87), H2 r_geq, Hm, Hg fun L' hL => fun hb => r_move (look_t rfl), Hg fun L' hL => fun hb => r_geq (look_tc rfl hb) (look_int 4), Hv fun L' hL => r_or (look_t rfl) (look_t rfl) (fun h => h), Hm, Hg fun L' hL => fun hb => r_fa fd89_1 (look_t rfl), Hg fun L' hL => fun hb => r_load (i := 3) ((Lens.id T_api_Entry).comp le_T_api_Entry_Matches) (r := x1.f_Matches) ty87 (look_tc rfl hb) (hL _ _ rfl rfl) rfl rfl, Hg fun L' hL => fun hb => r_move (look_t rfl), Hg fun L' hL => fun hb => r_ias (k := k2) Try.underlying87 ty104 (look_tc rfl hb) (look_tc rfl hb) (idx_some (condM_some hk2 hb)), Hg fun L' hL => fun hb => r_loadp ty104 (look_tc rfl hb), Hg fun L' hL => fun hb => r_fa fd163_2 (look_t rfl), Hg fun L' hL => fun hb => r_load (i := 0) ((Lens.id T_api_Key).comp le_T_api_Key_Kind) (r := (lget y1.1.f_Keys k1).f_Kind) ty3 (look_tc rfl hb) (hL _ _ rfl rfl) rfl rfl, Hg fun L' hL => fun hb => r_load (i := 4) (Lens.id T_api_Schema) (r := x0) ty33 (look_t rfl) (hL _ _ rfl rfl) rfl rfl, Hg fun L' hL => fun hb => r_load (i := 0) (Lens.id T_api_Key) (r := (lget y1.1.f_Keys k1)) ty163 (look_t rfl) (hL _ _ rfl rfl) rfl rfl, Hg fun L' hL => fun hb => r_call en141 (C_entry_bitsOf (condM_some hy2 hb)) ⟨look_tc rfl hb, look_tc rfl hb, trivial⟩, Hg fun L' hL => fun hb => r_move (look_t rfl), Hg fun L' hL => fun hb => r_ia (k := k3) ar81 (look_t rfl) (look_tc rfl hb) (idx_some (condM_some hk3 hb)), Hg fun L' hL => fun hb => r_load (i := 2) ((Lens.id (Vector T_api_Value 4)).comp (Lens.idx (α := T_api_Value) 4 k3 (idx_some (condM_some hk3 hb)).1)) (r := vget x2 k3) ty47 (look_tc rfl hb) (hL _ _ rfl rfl) rfl rfl, Hg fun L' hL => fun hb => r_call en140 (C_entry_Covers (condM_some hy3 hb)) ⟨look_tc rfl hb, look_tc rfl hb, look_tc rfl hb, look_tc rfl hb, trivial⟩, Hg fun L' hL => fun hb => r_not (look_tc rfl hb), Hn hz1 fun L' hL => r_or (look_t rfl) (look_t rfl) (fun h => h), trivial⟩) fun ps1 => ?_
    refine Qnx ?_
    refine Qcd h (fun h=>?_) fun h=>?_
    ·refine Qsr ?_
     refine Qa ?_
     refine Qnx ?_
     refine Wp.ret ?_
     refine To.bret ?_
     refine To.ret ?_
     obtain rfl:=some_in h
     exact Qlv () 1
    ·refine Wp.skip ?_
     refine To.bnorm ?_
     refine To.next ?_
     refine Wp.reg ?_
     refine Q2 r_add ?_
     refine Qm ?_
     refine Sq.nil ?_
     obtain rfl:=some_in h
     exact Qrd () 1
   ·refine Wp.exit ?_
    refine To.exit ?_
    obtain rfl:=some_in h
    exact Qlv () 0
  ·clear hl
   rcases e1 with e1 | e1
   ·simp only [Sum.elim_inl] at h
    refine To.bexit ?_
    refine To.next ?_
    refine Qsr ?_
    refine Qa ?_
    refine Qnx ?_
    refine Wp.ret ?_
    obtain rfl:=some_in h
    exact Qe1
   ·simp only [Sum.elim_inr] at h
    refine To.bret ?_
    refine To.ret ?_
    obtain rfl:=some_in h
    exact Qe1
theorem C_ref10_Matches {x0 : T_api_Schema} {x1 : T_api_Entry} {x2 : Vector T_api_Value 4}  {r : Bool} (h : L_ref10_Matches x0 x1 x2 = some r) : Meets Try.prog 37 [VP.of (x0), VP.of (x1), VP.of (x2)] (VP.of (r)) := by
 unfold L_ref10_Matches at h
 refine Meets.of Try.func37 rfl Try.ntmps37 rfl fun W A => ?_
 refine Qsr ?_
 refine Qbx fun p1 => ?_
 refine Qbx fun p2 => ?_
 refine Qbx fun p3 => ?_
 refine Qa ?_
 refine Qns ?_
 obtain ⟨y1,hy1,h⟩:=Qbs h
 obtain ⟨k1,hk1,h⟩:=Qbs h
 refine Wp.draw mixed 9 [some 10, some 11, some 12, some 13, some 14, some 15, some 16, some 17, some 7] [[], [0], [], [], [3], [2, 4], [1, 5], [6], []] [.val _, .val _, .val _, .val _, .val _, .val _, .val _, .val _, .new (.var (default : T_api_Table))] [false, false, false, false, false, false, false, false, false] (by kernel_rfl) rfl rfl rfl (fun ps1 => ⟨H1 (r_fa fd33_4), Hld 2 le_T_api_Schema_Tables ty28, Hl0 2 ty33, H1 (r_fa fd89_0), Hld 1 le_T_api_Entry_Table ty3, Hcl en86 (C_ref04_TableOf hy1), Hix hk1 Try.underlying28 ty136, H1 (r_loadp ty136), ao_alloc zr136, trivial⟩) fun ps1 => ?_
 refine Qs0 0 ty136 ?_
 refine Qns ?_
 refine Qsr ?_
 refine Q1 (r_fa fd136_2) ?_
 refine Qld 0 le_T_api_Table_Keys ty134 ?_
 refine Q1 (r_len Try.underlying134) ?_
 refine Qm ?_
 refine Qnx ?_
 refine Wp.block ?_
 obtain ⟨e1,hl,h⟩:=Qbs h
 refine Qlp (γ:=Unit) (δ:=Unit) hl [0, 1, 2, 3, 4, 5, 6, 7, 19, 20] (fun s1 g1 => [(21, VP.of (s1))]) (fun s1 g1 => []) (fun q1 => Sum.elim (fun q1 => Exit.exit 0) (fun q1 => Exit.ret) q1) (fun q1 g1 => Sum.elim (fun q1 => [(21, VP.of (q1.1)), (22, VP.of (q1.2))]) (fun q1 => [(8, VP.of (q1.1)), (21, VP.of (q1.2.1)), (22, VP.of (q1.2.2.1)), (41, VP.of (q1.2.2.2))]) q1) (fun q1 g1 => Sum.elim (fun q1 => []) (fun q1 => []) q1) () (fun s1 r h g1 => ?_) fun g1 => ?_
 ·clear hl
  refine Qsr ?_
  refine Q2 r_lss ?_
  refine Qns ?_
  refine Qcd h (fun h=>?_) fun h=>?_
  ·refine Qkn ?_
   refine Wp.seq ?_
   refine Wp.block ?_
   refine Qsr ?_
   refine Qm ?_
   obtain ⟨k2,hk2,h⟩:=Qbs h
   refine Qix hk2 Try.underlying134 ty163 ?_
   refine Q1 (r_loadp ty163) ?_
   refine Qal zr163 fun p4 => ?_
   refine Qa ?_
   refine Qs0 0 ty163 ?_
   refine Qns ?_
   obtain ⟨k3,hk3,h⟩:=Qbs h
   obtain ⟨y2,hy2,h⟩:=Qbs h
   obtain ⟨k4,hk4,h⟩:=Qbs h
   obtain ⟨y3,hy3,h⟩:=Qbs h
   refine Wp.draw mixed 16 ((some 26) :: (some 27) :: (some 28) :: (some 29) :: (some 30) :: (some 31) :: (some 32) :: (some 33) :: (some 34) :: (some 35) :: (some 36) :: (some 37) :: (some 38) :: (some 39) :: (some 40) :: (some 41) :: []) ([] :: [0] :: [] :: [1, 2] :: [3] :: [] :: [5] :: [] :: [] :: [] :: [7, 8, 9] :: [] :: [11] :: [12] :: [4, 6, 10, 13] :: [14] :: []) (.val _ :: .val _ :: .val _ :: .val _ :: .val _ :: .val _ :: .val _ :: .val _ :: .val _ :: .val _ :: .val _ :: .val _ :: .val _ :: .val _ :: .val _ :: .val _ :: []) (false :: false :: false :: false :: false :: false :: false :: false :: false :: false :: false :: false :: false :: false :: false :: false :: []) (by kernel_rfl) rfl rfl rfl (fun ps2 => ⟨H1 (r_fa fd89_1), Hld 3 le_T_api_Entry_Matches ty87, Hm, Hix hk3 Try.underlying87 ty104, H1 (r_loadp ty104), H1 (r_fa fd163_2), Hld 0 le_T_api_Key_Kind ty3, Hl0 4 ty33, Hl0 1 ty136, Hm, Hcl en88 (C_ref04_KeyBits hy2), Hm, Hv fun L' hL => r_ia (k := k4) ar81 (look_t rfl) (look_t rfl) (idx_some hk4), Hld 2 ((Lens.id (Vector T_api_Value 4)).comp (Lens.idx (α := T_api_Value) 4 k4 (idx_some hk4).1)) ty47, Hcl en87 (C_ref10_Covers hy3), H1 r_not, trivial⟩) fun ps2 => ?_
   refine Qnx ?_
   refine Qcd h (fun h=>?_) fun h=>?_
   ·refine Qsr ?_
    refine Qa ?_
    refine Qnx ?_
    refine Wp.ret ?_
    refine To.bret ?_
    refine To.ret ?_
    obtain rfl:=some_in h
    exact Qlv () 1
   ·refine Wp.skip ?_
    refine To.bnorm ?_
    refine To.next ?_
    refine Wp.reg ?_
    refine Q2 r_add ?_
    refine Qm ?_
    refine Sq.nil ?_
    obtain rfl:=some_in h
    exact Qrd () 1
  ·refine Wp.exit ?_
   refine To.exit ?_
   obtain rfl:=some_in h
   exact Qlv () 0
 ·clear hl
  rcases e1 with e1 | e1
  ·simp only [Sum.elim_inl] at h
   refine To.bexit ?_
   refine To.next ?_
   refine Qsr ?_
   refine Qa ?_
   refine Qnx ?_
   refine Wp.ret ?_
   obtain rfl:=some_in h
   exact Qe1
  ·simp only [Sum.elim_inr] at h
   refine To.bret ?_
   refine To.ret ?_
   obtain rfl:=some_in h
   exact Qe1
theorem C_ref10_Compare {x0 : T_api_Entry} {x1 : T_api_Entry}  {r : Int} (h : L_ref10_Compare x0 x1 = some r) : Meets Try.prog 124 [VP.of (x0), VP.of (x1)] (VP.of (r)) := by
 unfold L_ref10_Compare at h
 refine Meets.of Try.func124 rfl Try.ntmps124 rfl fun W A => ?_
 refine Qsr ?_
 refine Qbx fun p1 => ?_
 refine Qbx fun p2 => ?_
 refine Qa ?_
 refine Qns ?_
 refine Wp.seq ?_
 obtain ⟨y1,hy1,h⟩:=Qbs h
 obtain ⟨y2,hy2,h⟩:=Qbs h
 obtain ⟨y3,hy3,h⟩:=Qbs h
 obtain ⟨y4,hy4,h⟩:=Qbs h
 refine Wp.draw mixed 23 ((some 7) :: (some 8) :: (some 9) :: (some 10) :: (some 11) :: (some 12) :: (some 13) :: (some 14) :: (some 15) :: (some 16) :: (some 17) :: (some 18) :: (some 19) :: (some 20) :: (some 21) :: (some 22) :: (some 23) :: (some 24) :: (some 25) :: (some 26) :: (some 27) :: (some 28) :: (some 29) :: []) ([] :: [0] :: [] :: [2] :: [1, 3] :: [] :: [5] :: [] :: [7] :: [6, 8] :: [] :: [10] :: [] :: [12] :: [11, 13] :: [] :: [15] :: [] :: [17] :: [16, 18] :: [4, 9, 14, 19] :: [20] :: [] :: []) (.val _ :: .val _ :: .val _ :: .val _ :: .val _ :: .val _ :: .val _ :: .val _ :: .val _ :: .val _ :: .val _ :: .val _ :: .val _ :: .val _ :: .val _ :: .val _ :: .val _ :: .val _ :: .val _ :: .val _ :: .val _ :: .val _ :: .val _ :: []) (false :: false :: false :: false :: false :: false :: false :: false :: false :: false :: false :: false :: false :: false :: false :: false :: false :: false :: false :: false :: false :: false :: false :: []) (by kernel_rfl) rfl rfl rfl (fun ps1 => ⟨H1 (r_fa fd89_0), Hld 1 le_T_api_Entry_Table ty3, H1 (r_fa fd89_0), Hld 0 le_T_api_Entry_Table ty3, Hcl en150 (C_ref10_number hy1), H1 (r_fa fd89_2), Hld 0 le_T_api_Entry_Priority ty3, H1 (r_fa fd89_2), Hld 1 le_T_api_Entry_Priority ty3, Hcl en150 (C_ref10_number hy2), H1 (r_fa fd89_1), Hld 1 le_T_api_Entry_Matches ty87, H1 (r_fa fd89_1), Hld 0 le_T_api_Entry_Matches ty87, Hcl en151 (C_ref10_matches hy3), H1 (r_fa fd89_3), Hld 1 le_T_api_Entry_Action ty3, H1 (r_fa fd89_3), Hld 0 le_T_api_Entry_Action ty3, Hcl en150 (C_ref10_number hy4), Hv fun L' hL => r_bsl (r := [y1, y2, y3, y4]) Try.underlying64 ty3 zr3 rfl rfl (.cons (by simp) (look_t rfl) (.cons (by simp) (look_t rfl) (.cons (by simp) (look_t rfl) (.cons (by simp) (look_t rfl) (.nil))))), H1 (r_len Try.underlying64), Hm, trivial⟩) fun ps1 => ?_
 refine Qnx ?_
 refine Wp.block ?_
 obtain ⟨e1,hl,h⟩:=Qbs h
 refine Qlp (γ:=Unit) (δ:=Unit) hl [0, 1, 2, 3, 27, 28] (fun s1 g1 => [(4, VP.of (0 : Int)), (29, VP.of (s1))]) (fun s1 g1 => []) (fun q1 => Sum.elim (fun q1 => Exit.exit 0) (fun q1 => Exit.ret) q1) (fun q1 g1 => Sum.elim (fun q1 => [(4, VP.of (0 : Int)), (29, VP.of (q1.1)), (30, VP.of (q1.2))]) (fun q1 => [(4, VP.of (q1.1)), (6, VP.of (q1.2.1)), (29, VP.of (q1.2.2.1)), (30, VP.of (q1.2.2.2.1)), (34, VP.of (q1.2.2.2.2))]) q1) (fun q1 g1 => Sum.elim (fun q1 => []) (fun q1 => []) q1) () (fun s1 r h g1 => ?_) fun g1 => ?_
 ·clear hl
  refine Qsr ?_
  refine Q2 r_lss ?_
  refine Qns ?_
  refine Qcd h (fun h=>?_) fun h=>?_
  ·refine Qkn ?_
   refine Wp.seq ?_
   refine Wp.block ?_
   refine Qsr ?_
   obtain ⟨k1,hk1,h⟩:=Qbs h
   refine Qix hk1 Try.underlying64 ty3 ?_
   refine Q1 (r_loadp ty3) ?_
   refine Qa ?_
   refine Qnr ?_
   refine Qm ?_
   refine Q2 r_neq ?_
   refine Qnx ?_
   refine Qcd h (fun h=>?_) fun h=>?_
   ·refine Qsr ?_
    refine Qm ?_
    refine Qa ?_
    refine Qnx ?_
    refine Wp.ret ?_
    refine To.bret ?_
    refine To.ret ?_
    obtain rfl:=some_in h
    exact Qlv () 0
   ·refine Wp.skip ?_
    refine To.bnorm ?_
    refine To.next ?_
    refine Wp.reg ?_
    refine Q2 r_add ?_
    refine Qm ?_
    refine Sq.nil ?_
    obtain rfl:=some_in h
    exact Qrd () 0
  ·refine Wp.exit ?_
   refine To.exit ?_
   obtain rfl:=some_in h
   exact Qlv () 0
 ·clear hl
  rcases e1 with e1 | e1
  ·simp only [Sum.elim_inl] at h
   refine To.bexit ?_
   refine To.next ?_
   refine Qsr ?_
   refine Q1 (r_fa fd89_4) ?_
   refine Qld 1 le_T_api_Entry_Args ty72 ?_
   refine Q1 (r_fa fd89_4) ?_
   refine Qld 0 le_T_api_Entry_Args ty72 ?_
   obtain ⟨y5,hy5,h⟩:=Qbs h
   refine Qcl en152 (C_ref10_values hy5) ?_
   refine Qa ?_
   refine Qnx ?_
   refine Wp.ret ?_
   obtain rfl:=some_in h
   exact Qe1
  ·simp only [Sum.elim_inr] at h
   refine To.bret ?_
   refine To.ret ?_
   obtain rfl:=some_in h
   exact Qe1
theorem Ch0_1_ordered_List_All {x0 : T_ordered_List} {pp0 : Nat} {key00_0 : Option Nat} {cap00_0 : Nat} {r : (List T_api_Installed)} (h : Lh0_1_ordered_List_All x0 = some r) : MeetsO Try.prog 44 [VP.eq (.pointer (some ⟨pp0, 0, none⟩))] [⟨some pp0, .varX (({ x0 with f_l := [] } : T_ordered_List) : T_ordered_List) [(10, slv key00_0 x0.f_l.length cap00_0)]⟩, ⟨key00_0, .row 92 (x0.f_l : List T_api_Installed) cap00_0⟩] (δ := Unit) (fun d => VP.of (r)) (fun d => [⟨some pp0, .varX (({ x0 with f_l := [] } : T_ordered_List) : T_ordered_List) [(10, slv key00_0 (x0.f_l).length cap00_0)]⟩, ⟨key00_0, .row 92 (x0.f_l : List T_api_Installed) cap00_0⟩]) := by
 unfold Lh0_1_ordered_List_All at h
 refine MeetsO.of Try.func44 rfl Try.ntmps44 rfl fun W A => ?_
 refine Qsr ?_
 refine Qv (r_asg (look_nil (α := T_api_Installed))) ?_
 refine Qns ?_
 refine Qsr ?_
 refine Qm ?_
 refine Qv (r_pnil Try.underlying82 (look_t rfl)) ?_
 refine Qnx ?_
 refine Wp.condF (look_t rfl) rfl ?_
 refine Qkn ?_
 refine Qsr ?_
 refine Qm ?_
 refine Q1 r_nck ?_
 refine Q1 (r_fa fd161_1) ?_
 refine Qv (r_loadH (i := 0) (q := 0) (β := T_ordered_List) (γ := T_api_Installed) ty84 (look_t rfl) rfl rfl) ?_
 obtain ⟨y1,hy1,h⟩:=Qbs h
 refine Sq.vS (HS.call [1] en93 (Cl0_own_List hy1) ⟨look_t rfl, trivial⟩ rfl ⟨rfl, trivial⟩ rfl) rfl rfl rfl ?_
 refine Qa ?_
 refine Qnx ?_
 refine Wp.ret ?_
 refine To.bring 1 rfl ?_
 refine To.bring 1 rfl ?_
 obtain rfl:=some_in h
 exact Qo1 ()
theorem C_ref13_Ranked {x0 : T_api_Schema} {x1 : List T_api_Installed}  {r : (List T_api_Installed)} (h : L_ref13_Ranked x0 x1 = some r) : Meets Try.prog 45 [VP.of (x0), VP.of (x1)] (VP.of (r)) := by
 unfold L_ref13_Ranked at h
 refine Meets.of Try.func45 rfl Try.ntmps45 rfl fun W A => ?_
 refine Qsr ?_
 refine Qbx fun p1 => ?_
 refine Qv (r_asg (look_nil (α := T_api_Installed))) ?_
 refine Qnr ?_
 refine Qv (r_asg (look_nil (α := T_api_Installed))) ?_
 refine Qns ?_
 refine Qsr ?_
 refine Qm ?_
 refine Q1 (r_len Try.underlying84) ?_
 refine Qm ?_
 refine Qnx ?_
 refine Wp.block ?_
 obtain ⟨e1,hl,h⟩:=Qbs h
 refine Qlp (γ:=Unit) (δ:=Unit) hl [0, 1, 2, 4, 9, 10] (fun s1 g1 => [(5, VP.of (s1.1)), (11, VP.of (s1.2))]) (fun s1 g1 => []) (fun q1 => Exit.exit 0) (fun q1 g1 => [(5, VP.of (q1.1)), (11, VP.of (q1.2.1)), (12, VP.of (q1.2.2))]) (fun q1 g1 => []) () (fun s1 r h g1 => ?_) fun g1 => ?_
 ·clear hl
  refine Qsr ?_
  refine Q2 r_lss ?_
  refine Qns ?_
  refine Qcd h (fun h=>?_) fun h=>?_
  ·refine Qkn ?_
   refine Wp.seq ?_
   refine Wp.block ?_
   refine Qsr ?_
   obtain ⟨k1,hk1,h⟩:=Qbs h
   refine Qix hk1 Try.underlying84 ty92 ?_
   refine Q1 (r_loadp ty92) ?_
   refine Qal zr92 fun p2 => ?_
   refine Qs0 0 ty92 ?_
   refine Qnr ?_
   refine Qa ?_
   refine Qns ?_
   refine Wp.block ?_
   obtain ⟨e2,hl,h⟩:=Qbs h
   refine Qlp (γ:=Unit) (δ:=Unit) hl [0, 1, 2, 4, 5, 7, 9, 10, 11, 12] (fun s2 g2 => [(8, VP.of (s2))]) (fun s2 g2 => []) (fun q2 => Exit.exit 2) (fun q2 g2 => [(8, VP.of (q2.1)), (27, VP.of (q2.2))]) (fun q2 g2 => []) () (fun s2 r h g2 => ?_) fun g2 => ?_
   ·clear hl
    refine Wp.seq ?_
    refine Wp.seq ?_
    obtain ⟨k2,hk2,h⟩:=Qbs h
    obtain ⟨y1,hy1,h⟩:=Qbs h
    refine Wp.draw mixed 13 [some 15, some 16, some 17, some 18, some 19, some 20, some 21, some 22, some 23, some 24, some 25, some 26, some 27] [[], [], [1], [0, 2], [3], [4], [4], [4], [4, 6, 7], [4, 8], [4], [4, 5, 9, 10], [4, 11]] [.val _, .val _, .val _, .val _, .val _, .val _, .val _, .val _, .val _, .val _, .val _, .val _, .val _] [false, false, false, false, false, false, false, false, false, false, false, false, false] (by kernel_rfl) rfl rfl rfl (fun ps1 => ⟨Hm, Hm, H1 (r_len Try.underlying84), H2 r_lss, Hm, Hg fun L' hL => fun hb => r_load (i := 1) (Lens.id T_api_Schema) (r := x0) ty33 (look_t rfl) (hL _ _ rfl rfl) rfl rfl, Hg fun L' hL => fun hb => r_move (look_t rfl), Hg fun L' hL => fun hb => r_move (look_t rfl), Hg fun L' hL => fun hb => r_ias (k := k2) Try.underlying84 ty92 (look_tc rfl hb) (look_tc rfl hb) (idx_some (condM_some hk2 hb)), Hg fun L' hL => fun hb => r_loadp ty92 (look_tc rfl hb), Hg fun L' hL => fun hb => r_load (i := 0) (Lens.id T_api_Installed) (r := (lget x1 k1)) ty92 (look_t rfl) (hL _ _ rfl rfl) rfl rfl, Hg fun L' hL => fun hb => r_call en94 (C_ref10_Beats (condM_some hy1 hb)) ⟨look_tc rfl hb, look_tc rfl hb, look_tc rfl hb, trivial⟩, Hv fun L' hL => r_and (look_t rfl) (look_t rfl) (fun h => h), trivial⟩) fun ps1 => ?_
    refine Qnx ?_
    refine Qcd h (fun h=>?_) fun h=>?_
    ·refine Qkn ?_
     refine Wp.block ?_
     refine Wp.reg ?_
     refine Qm ?_
     refine Q2 r_add ?_
     refine Qa ?_
     refine Sq.nil ?_
     refine To.bnorm ?_
     obtain rfl:=some_in h
     exact Qrd () 0
    ·refine Wp.exit ?_
     refine To.exit ?_
     obtain rfl:=some_in h
     exact Qlv () 0
   ·clear hl
    refine To.bexit ?_
    refine To.next ?_
    obtain ⟨y2,hy2,h⟩:=Qbs h
    obtain ⟨y3,hy3,h⟩:=Qbs h
    obtain ⟨y4,hy4,h⟩:=Qbs h
    obtain ⟨y5,hy5,h⟩:=Qbs h
    obtain ⟨y6,hy6,h⟩:=Qbs h
    refine Wp.keep 1 ?_
    refine Qwl [0, 1, 2, 4, 5, 7, 8, 9, 10, 11, 12, 27] ?_
    refine Wp.drawD mixed (⟨some 30, [], (2 :: []), (2 :: []), fun hd => VP.eq (slv (hd 0 0) ([] : List T_api_Installed).length 0), fun hd _ => ⟨(hd 0 0), .row 92 (([] : List T_api_Installed) : List T_api_Installed) 0⟩⟩ :: Hp 31 [] [] _ :: Hp 32 [] [] _ :: Hp 33 (1 :: 2 :: []) [] _ :: ⟨some 34, (0 :: 3 :: []), (2 :: []), (2 :: []), fun hd => VP.eq (slv (hd 4 0) y3.length ((hd 4 1).getD 0)), fun hd _ => ⟨(hd 4 0), .row 92 (y3 : List T_api_Installed) ((hd 4 1).getD 0)⟩⟩ :: Hp 35 [] (0 :: []) _ :: Hp 36 (5 :: []) [] _ :: ⟨some 37, (0 :: 4 :: 6 :: []), (2 :: []), (2 :: []), fun hd => VP.eq (slv (hd 7 0) y4.length ((hd 7 1).getD 0)), fun hd _ => ⟨(hd 7 0), .row 92 (y4 : List T_api_Installed) ((hd 7 1).getD 0)⟩⟩ :: Hp 38 [] [] _ :: Hp 39 [] [] _ :: Hp 40 (8 :: 9 :: []) [] _ :: ⟨some 41, (0 :: 4 :: 7 :: 10 :: []), (2 :: []), (2 :: []), fun hd => VP.eq (slv (hd 11 0) y6.length ((hd 11 1).getD 0)), fun hd _ => ⟨(hd 11 0), .row 92 (y6 : List T_api_Installed) ((hd 11 1).getD 0)⟩⟩ :: ⟨some 5, (0 :: 1 :: 2 :: 3 :: 4 :: 5 :: 6 :: 7 :: 8 :: 9 :: 10 :: 11 :: []), [], [], fun hd => VP.eq (slv (hd 11 0) y6.length ((hd 11 1).getD 0)), fun _ _ => ⟨none, .dead⟩⟩ :: []) _ (0 :: 1 :: 2 :: 4 :: 5 :: 7 :: 8 :: 9 :: 10 :: 11 :: 12 :: 27 :: []) rfl rfl (by kernel_rfl) ⟨?_, Dm, Dm, Dv fun hd E' L' hE hL => r_slice Try.underlying84 ty92 (look_t (hE _ _ rfl)) .none (.some (look_t (hE _ _ rfl))) hy2, ?_, Dl0 0 ty92, Dv fun hd E' L' hE hL => r_bsl (r := [(lget x1 k1)]) Try.underlying84 ty92 zr92 rfl rfl (.cons (by simp) (look_t (hE _ _ rfl)) (.nil)), ?_, Dm, Dm, Dv fun hd E' L' hE hL => r_slice Try.underlying84 ty92 (look_t (hE _ _ rfl)) (.some (look_t (hE _ _ rfl))) .none hy5, ?_, ?_, trivial⟩ fun hd => ?_
    ·intro hd E' L' hE hL
     refine Sq.bslO (α := T_api_Installed) (r := ([] : List T_api_Installed)) Try.underlying84 ty92 zr92 rfl rfl (.nil) rfl fun key1 => ?_
     refine Sq.nil ?_
     refine To.place 2 (hL 2 _ rfl rfl) ?_
     exact To.fin (gm [key1]) rfl rfl
    ·intro hd E' L' hE hL
     refine Sq.app (i := 2) Try.underlying84 ty92 zr92 (bytes := 88) (by kernel_rfl) (look_t (hE _ _ rfl)) (hL 2 _ rfl rfl) (look_t (hE _ _ rfl)) hy3 rfl fun key2 cap1 => ?_
     refine Sq.nil ?_
     exact To.fin (gm [key2, some cap1]) rfl rfl
    ·intro hd E' L' hE hL
     refine Sq.app (i := 2) Try.underlying84 ty92 zr92 (bytes := 88) (by kernel_rfl) (look_t (hE _ _ rfl)) (hL 2 _ rfl rfl) (look_t (hE _ _ rfl)) hy4 rfl fun key3 cap2 => ?_
     refine Sq.nil ?_
     exact To.fin (gm [key3, some cap2]) rfl rfl
    ·intro hd E' L' hE hL
     refine Sq.app (i := 2) Try.underlying84 ty92 zr92 (bytes := 88) (by kernel_rfl) (look_t (hE _ _ rfl)) (hL 2 _ rfl rfl) (look_t (hE _ _ rfl)) hy6 rfl fun key4 cap3 => ?_
     refine Sq.nil ?_
     exact To.fin (gm [key4, some cap3]) rfl rfl
    ·intro hd E' L' hE hL
     refine Qv (r_asg (look_t (hE _ _ rfl))) ?_
     refine Sq.nil ?_
     exact To.fin (gm []) rfl rfl
    refine To.eqL (L2 := [⟨some p2, .var (lget x1 k1 : T_api_Installed)⟩, ⟨some p1, .var (x0 : T_api_Schema)⟩, ⟨(hd 11 0), .row 92 (y6 : List T_api_Installed) ((hd 11 1).getD 0)⟩]) rfl ?_
    refine Qtl [0, 1, 2, 4, 5, 7, 8, 9, 10, 11, 12, 27, 31, 32, 33, 35, 36, 38, 39, 40, 41] ?_
    refine To.bring 2 rfl ?_
    refine To.bnorm ?_
    refine To.next ?_
    refine Wp.reg ?_
    refine Q2 r_add ?_
    refine Qm ?_
    refine Sq.nil ?_
    refine To.freezeL (α := T_api_Installed) 0 [5, 41] ⟨rfl, rfl, trivial⟩ rfl ?_
    obtain rfl:=some_in h
    exact Qrd () 2
  ·refine Wp.exit ?_
   refine To.exit ?_
   obtain rfl:=some_in h
   exact Qlv () 0
 ·clear hl
  refine To.bexit ?_
  refine To.next ?_
  refine Qsr ?_
  refine Qm ?_
  refine Qa ?_
  refine Qnx ?_
  refine Wp.ret ?_
  obtain rfl:=some_in h
  exact Qe1
end Go.Proofs.Ytodajdohokmjnaa

