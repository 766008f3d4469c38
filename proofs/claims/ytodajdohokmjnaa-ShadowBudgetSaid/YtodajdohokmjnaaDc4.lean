/-
  Printed by the decompiler (dec.py) out of the seat's translation. Each function meets its functional program. Conditions: none.
-/
import Derived.Test.YtodajdohokmjnaaDc0
import Derived.Test.YtodajdohokmjnaaDc1
import Derived.Test.YtodajdohokmjnaaDc2
namespace Go.Proofs.Ytodajdohokmjnaa
open Go Gv
set_option linter.unusedVariables false
set_option linter.unusedSimpArgs false
set_option maxRecDepth 100000
set_option maxHeartbeats 2000000
theorem C_mcase_Codes_roles {x0 : T_mcase_Codes} {x1 : List T_api_Table} {pp0 : Nat} {r : (List T_api_Role) × T_mcase_Codes} (h : L_mcase_Codes_roles x0 x1 = some r) : MeetsO Try.prog 53 [VP.eq (.pointer (some ⟨pp0, 0, none⟩)), VP.of (x1)] [⟨some pp0, .var (x0 : T_mcase_Codes)⟩] (δ := Unit) (fun d => VP.of (r.1)) (fun d => [⟨some pp0, .var (r.2 : T_mcase_Codes)⟩]) := by
 unfold L_mcase_Codes_roles at h
 refine MeetsO.of Try.func53 rfl Try.ntmps53 rfl fun W A => ?_
 refine Qsr ?_
 refine Qv (r_asg (look_nil (α := T_api_Role))) ?_
 refine Qnr ?_
 refine Qbl ([1, 2, 3, 4, 5, 6] : List Int) Try.underlying64 ty3 zr3 ?_
 refine Qv (r_buildX (b := ({ (default : T_api_Role) with f_ID := 1, f_Name := ByteArray.mk #[97, 108, 108], f_Actions := ([1, 2, 3, 4, 5, 6] : List Int), f_Quota := 40, f_Audit := true } : T_api_Role)) [2] zh207_2 rfl bu207 zr207 (.cons le_T_api_Role_ID rfl (look_int 1) rfl (by rfl) (.cons le_T_api_Role_Name rfl (look_str (ByteArray.mk #[97, 108, 108])) rfl (by rfl) (.cons le_T_api_Role_Actions rfl (look_t rfl) rfl (by rfl) (.cons le_T_api_Role_Quota rfl (look_int 40) rfl (by rfl) (.cons le_T_api_Role_Audit rfl (look_bool true) rfl (by rfl) (.nil))))))) ?_
 refine Sq.own (α := T_api_Grant) 209 ?_
 refine Sq.allocX (z := (default : T_api_Role)) [2] zh207_2 zr207 rfl fun p1 => ?_
 refine Sq.own (α := T_api_Grant) 209 ?_
 refine Sq.storeW (i := 1) ty207 (look_t rfl) (look_t rfl) rfl ?_
 refine Qnr ?_
 refine Qm ?_
 refine Sq.bring 3 rfl ?_
 obtain ⟨y1,hy1,h⟩:=Qbs h
 refine QcO 1 en49 (C_mcase_Codes_Next hy1) fun q1 => ?_
 refine Q2 r_add ?_
 refine Qbl ([1, 2, w64 (3 + y1.1)] : List Int) Try.underlying64 ty3 zr3 ?_
 refine Qm ?_
 refine Sq.bring 0 rfl ?_
 obtain ⟨y2,hy2,h⟩:=Qbs h
 refine QcO 1 en49 (C_mcase_Codes_Next hy2) fun q2 => ?_
 refine Q2 r_add ?_
 refine Qv (r_buildX (b := ({ (default : T_api_Role) with f_ID := 2, f_Name := ByteArray.mk #[115, 111, 109, 101], f_Actions := ([1, 2, w64 (3 + y1.1)] : List Int), f_Quota := w64 (1 + y2.1) } : T_api_Role)) [2] zh207_2 rfl bu207 zr207 (.cons le_T_api_Role_ID rfl (look_int 2) rfl (by rfl) (.cons le_T_api_Role_Name rfl (look_str (ByteArray.mk #[115, 111, 109, 101])) rfl (by rfl) (.cons le_T_api_Role_Actions rfl (look_t rfl) rfl (by rfl) (.cons le_T_api_Role_Quota rfl (look_t rfl) rfl (by rfl) (.nil)))))) ?_
 refine Sq.own (α := T_api_Grant) 209 ?_
 refine Sq.allocX (z := (default : T_api_Role)) [2] zh207_2 zr207 rfl fun p2 => ?_
 refine Sq.own (α := T_api_Grant) 209 ?_
 refine Sq.storeW (i := 1) ty207 (look_t rfl) (look_t rfl) rfl ?_
 refine Qnr ?_
 refine Qm ?_
 refine Sq.bring 3 rfl ?_
 obtain ⟨y3,hy3,h⟩:=Qbs h
 refine QcO 1 en49 (C_mcase_Codes_Next hy3) fun q3 => ?_
 refine Q2 r_add ?_
 refine Qbl [w64 (1 + y3.1)] Try.underlying64 ty3 zr3 ?_
 refine Qm ?_
 refine Sq.bring 0 rfl ?_
 obtain ⟨y4,hy4,h⟩:=Qbs h
 refine QcO 1 en49 (C_mcase_Codes_Next hy4) fun q4 => ?_
 refine Qv (r_buildX (b := ({ (default : T_api_Role) with f_ID := 7, f_Name := ByteArray.mk #[102, 101, 119], f_Actions := [w64 (1 + y3.1)], f_Quota := y4.1 } : T_api_Role)) [2] zh207_2 rfl bu207 zr207 (.cons le_T_api_Role_ID rfl (look_int 7) rfl (by rfl) (.cons le_T_api_Role_Name rfl (look_str (ByteArray.mk #[102, 101, 119])) rfl (by rfl) (.cons le_T_api_Role_Actions rfl (look_t rfl) rfl (by rfl) (.cons le_T_api_Role_Quota rfl (look_t rfl) rfl (by rfl) (.nil)))))) ?_
 refine Sq.own (α := T_api_Grant) 209 ?_
 refine Sq.allocX (z := (default : T_api_Role)) [2] zh207_2 zr207 rfl fun p3 => ?_
 refine Sq.own (α := T_api_Grant) 209 ?_
 refine Sq.storeW (i := 1) ty207 (look_t rfl) (look_t rfl) rfl ?_
 refine Qns ?_
 refine Qsr ?_
 refine Qm ?_
 refine Q1 (r_len Try.underlying28) ?_
 refine Qm ?_
 refine Qnx ?_
 refine Wp.block ?_
 obtain ⟨e1,hl,h⟩:=Qbs h
 refine Qlp (γ:=(Option Nat × Nat) × (Option Nat × Nat) × (Option Nat × Nat)) (δ:=(Option Nat × Nat) × (Option Nat × Nat) × (Option Nat × Nat)) hl [0, 1, 4, 5, 6, 7, 30, 31] (fun s1 g1 => [(32, VP.of (s1.1))]) (fun s1 g1 => [(1, ⟨some p3, .varX (s1.2.1 : T_api_Role) [(2, slv g1.1.1 s1.2.2.1.length g1.1.2)]⟩), (2, ⟨g1.1.1, .row 209 (s1.2.2.1 : List T_api_Grant) g1.1.2⟩), (3, ⟨some pp0, .var (s1.2.2.2.1 : T_mcase_Codes)⟩), (5, ⟨some p2, .varX (s1.2.2.2.2.1 : T_api_Role) [(2, slv g1.2.1.1 s1.2.2.2.2.2.1.length g1.2.1.2)]⟩), (6, ⟨g1.2.1.1, .row 209 (s1.2.2.2.2.2.1 : List T_api_Grant) g1.2.1.2⟩), (8, ⟨some p1, .varX (s1.2.2.2.2.2.2.1 : T_api_Role) [(2, slv g1.2.2.1 s1.2.2.2.2.2.2.2.length g1.2.2.2)]⟩), (9, ⟨g1.2.2.1, .row 209 (s1.2.2.2.2.2.2.2 : List T_api_Grant) g1.2.2.2⟩)]) (fun q5 => Exit.exit 0) (fun q5 g1 => [(32, VP.of (q5.1)), (33, VP.of (q5.2.1))]) (fun q5 g1 => [(1, ⟨some p3, .varX (q5.2.2.1 : T_api_Role) [(2, slv g1.1.1 q5.2.2.2.1.length g1.1.2)]⟩), (2, ⟨g1.1.1, .row 209 (q5.2.2.2.1 : List T_api_Grant) g1.1.2⟩), (3, ⟨some pp0, .var (q5.2.2.2.2.1 : T_mcase_Codes)⟩), (5, ⟨some p2, .varX (q5.2.2.2.2.2.1 : T_api_Role) [(2, slv g1.2.1.1 q5.2.2.2.2.2.2.1.length g1.2.1.2)]⟩), (6, ⟨g1.2.1.1, .row 209 (q5.2.2.2.2.2.2.1 : List T_api_Grant) g1.2.1.2⟩), (8, ⟨some p1, .varX (q5.2.2.2.2.2.2.2.1 : T_api_Role) [(2, slv g1.2.2.1 q5.2.2.2.2.2.2.2.2.length g1.2.2.2)]⟩), (9, ⟨g1.2.2.1, .row 209 (q5.2.2.2.2.2.2.2.2 : List T_api_Grant) g1.2.2.2⟩)]) ((none, 0), (none, 0), (none, 0)) (fun s1 r h g1 => ?_) fun g1 => ?_
 ·clear hl
  refine Qsr ?_
  refine Q2 r_lss ?_
  refine Qns ?_
  refine Qcd h (fun h=>?_) fun h=>?_
  ·refine Qkn ?_
   refine Wp.seq ?_
   refine Wp.block ?_
   refine Qsr ?_
   obtain ⟨k1,hk1,h⟩:=Qbs h
   refine Qix hk1 Try.underlying28 ty136 ?_
   refine Q1 (r_loadp ty136) ?_
   refine Qal zr136 fun p4 => ?_
   refine Qs0 0 ty136 ?_
   refine Qnr ?_
   refine Q1 (r_fa fd136_2) ?_
   refine Qld 0 le_T_api_Table_Keys ty134 ?_
   refine Q1 (r_len Try.underlying134) ?_
   obtain ⟨y5,hy5,h⟩:=Qbs h
   refine Sq.mks Try.underlying96 ty4 zr4 rfl (by kernel_rfl) (look_t rfl) (look_t rfl) hy5 rfl fun key1 => ?_
   refine Qa ?_
   refine Qnr ?_
   refine Q1 (r_fa fd136_2) ?_
   refine Qld 1 le_T_api_Table_Keys ty134 ?_
   refine Q1 (r_len Try.underlying134) ?_
   obtain ⟨y6,hy6,h⟩:=Qbs h
   refine Sq.mks Try.underlying96 ty4 zr4 rfl (by kernel_rfl) (look_t rfl) (look_t rfl) hy6 rfl fun key2 => ?_
   refine Qa ?_
   refine Qns ?_
   refine Qsr ?_
   refine Qm ?_
   refine Qv (r_lenO (i := 1) Try.underlying96 (look_t rfl) rfl rfl) ?_
   refine Qm ?_
   refine Qnx ?_
   refine Wp.block ?_
   obtain ⟨e2,hl,h⟩:=Qbs h
   refine Qlp (γ:=(Option Nat × Nat) × (Option Nat × Nat)) (δ:=(Option Nat × Nat) × (Option Nat × Nat)) hl [0, 1, 4, 5, 6, 7, 9, 30, 31, 32, 33, 45] (fun s2 g2 => [(10, VP.eq (slv g2.2.1 s2.2.2.1.length g2.2.2)), (11, VP.eq (slv g2.1.1 s2.2.1.length g2.1.2)), (46, VP.of (s2.1))]) (fun s2 g2 => [(0, ⟨g2.1.1, .row 4 (s2.2.1 : List Bool) g2.1.2⟩), (1, ⟨g2.2.1, .row 4 (s2.2.2.1 : List Bool) g2.2.2⟩), (6, ⟨some pp0, .var (s2.2.2.2 : T_mcase_Codes)⟩)]) (fun q6 => Exit.exit 2) (fun q6 g2 => [(10, VP.eq (slv g2.2.1 q6.2.2.2.1.length g2.2.2)), (11, VP.eq (slv g2.1.1 q6.2.2.1.length g2.1.2)), (46, VP.of (q6.1)), (47, VP.of (q6.2.1))]) (fun q6 g2 => [(0, ⟨g2.1.1, .row 4 (q6.2.2.1 : List Bool) g2.1.2⟩), (1, ⟨g2.2.1, .row 4 (q6.2.2.2.1 : List Bool) g2.2.2⟩), (6, ⟨some pp0, .var (q6.2.2.2.2 : T_mcase_Codes)⟩)]) ((key2, y6.length), (key1, y5.length)) (fun s2 r h g2 => ?_) fun g2 => ?_
   ·clear hl
    refine Qsr ?_
    refine Q2 r_lss ?_
    refine Qns ?_
    refine Qcd h (fun h=>?_) fun h=>?_
    ·refine Qkn ?_
     refine Wp.seq ?_
     refine Wp.block ?_
     refine Qsr ?_
     refine Qm ?_
     refine Qa ?_
     refine Qnx ?_
     refine Wp.reg ?_
     refine Qm ?_
     refine Qm ?_
     refine Qm ?_
     refine Qm ?_
     refine Qm ?_
     refine Sq.bring 6 rfl ?_
     obtain ⟨y7,hy7,h⟩:=Qbs h
     refine QcO 1 en49 (C_mcase_Codes_Next hy7) fun q7 => ?_
     refine Q2 r_gtr ?_
     obtain ⟨k2,hk2,h⟩:=Qbs h
     refine Qv (r_iaO (i := 2) (k := k2) (xs := (s2.2.2.1 : List Bool)) Try.underlying96 ty4 (look_t rfl) (look_t rfl) rfl (idx_some hk2)) ?_
     refine Sq.storeR (i := 2) (k := k2) (Lens.id Bool) (v := (true : Bool)) (r := (lset s2.2.2.1 k2 true : List Bool)) ty4 (look_t rfl) (look_bool true) rfl (idx_some hk2).1 rfl rfl ?_
     refine Sq.relen (m := (lset s2.2.2.1 k2 true).length) 10 rfl (lset_len rfl) ?_
     refine Sq.relen (m := (lset s2.2.2.1 k2 true).length) 49 rfl (lset_len rfl) ?_
     obtain ⟨k3,hk3,h⟩:=Qbs h
     refine Qv (r_iaO (i := 1) (k := k3) (xs := (s2.2.1 : List Bool)) Try.underlying96 ty4 (look_t rfl) (look_t rfl) rfl (idx_some hk3)) ?_
     refine Sq.storeR (i := 1) (k := k3) (Lens.id Bool) (v := (decide (y7.1 > 0) : Bool)) (r := (lset s2.2.1 k3 (decide (y7.1 > 0)) : List Bool)) ty4 (look_t rfl) (look_t rfl) rfl (idx_some hk3).1 rfl rfl ?_
     refine Sq.relen (m := (lset s2.2.1 k3 (decide (y7.1 > 0))).length) 11 rfl (lset_len rfl) ?_
     refine Sq.relen (m := (lset s2.2.1 k3 (decide (y7.1 > 0))).length) 51 rfl (lset_len rfl) ?_
     refine Sq.nil ?_
     refine To.bnorm ?_
     refine To.next ?_
     refine Wp.reg ?_
     refine Q2 r_add ?_
     refine Qm ?_
     refine Sq.nil ?_
     refine To.bring 6 rfl ?_
     refine To.bring 6 rfl ?_
     refine To.bring 6 rfl ?_
     refine To.bring 6 rfl ?_
     refine To.bring 6 rfl ?_
     refine To.bring 6 rfl ?_
     obtain rfl:=some_in h
     exact Qrd ((g2.1.1, g2.1.2), (g2.2.1, g2.2.2)) 0
    ·refine Wp.exit ?_
     refine To.exit ?_
     obtain rfl:=some_in h
     exact Qlv ((g2.1.1, g2.1.2), (g2.2.1, g2.2.2)) 0
   ·clear hl
    refine To.bexit ?_
    refine To.next ?_
    refine Qsr ?_
    refine Q1 (r_fa fd207_2) ?_
    refine Qv (r_loadH (i := 11) (q := 0) (β := T_api_Role) (γ := T_api_Grant) ty205 (look_t rfl) rfl rfl) ?_
    refine Q1 (r_fa fd136_0) ?_
    refine Qld 2 le_T_api_Table_ID ty3 ?_
    refine Qm ?_
    refine Sq.freezeL (α := Bool) 1 [63, 10] ⟨rfl, rfl, trivial⟩ rfl ?_
    obtain ⟨z1,hz1,h⟩:=Qbs h
    refine Qn hz1 (r_build (b := { f_Table := (lget x1 k1).f_ID, f_Read := true, f_Write := true, f_Keys := e2.2.2.2.1 : T_api_Grant }) rfl bu209 zr209 (.cons le_T_api_Grant_Table rfl (look_t rfl) rfl (.cons le_T_api_Grant_Read rfl (look_bool true) rfl (.cons le_T_api_Grant_Write rfl (look_bool true) rfl (.cons le_T_api_Grant_Keys rfl (look_t rfl) rfl (.nil)))))) ?_
    refine Qbl [z1] Try.underlying205 ty209 zr209 ?_
    obtain ⟨y8,hy8,h⟩:=Qbs h
    refine Qap 12 Try.underlying205 ty209 zr209 hy8 fun key3 cap1 => ?_
    refine Q1 (r_fa fd207_2) ?_
    refine Sq.storeH (i := 11) (γ := T_api_Grant) (b' := (({ s1.2.2.2.2.2.2.1 with f_Grants := [] } : T_api_Role) : T_api_Role)) (os' := [(2, slv key3 y8.length cap1)]) ((Lens.id T_api_Role).comp le_T_api_Role_Grants) ty205 (look_t rfl) (look_t rfl) slv_one rfl rfl rfl rfl ?_
    refine Qns ?_
    refine Qsr ?_
    refine Qm ?_
    refine Sq.bring 6 rfl ?_
    obtain ⟨y9,hy9,h⟩:=Qbs h
    refine QcO 1 en49 (C_mcase_Codes_Next hy9) fun q8 => ?_
    refine Q2 r_gtr ?_
    refine Qnx ?_
    refine Wp.freeze (α := Bool) 1 11 rfl rfl ?_
    obtain ⟨m1,hm1,h⟩:=Qbs h
    refine Qcm (γ:=(Option Nat × Nat)) [0, 1, 4, 5, 6, 7, 9, 10, 11, 30, 31, 32, 33, 45, 46, 47, 70] (fun g3 => []) (fun g3 => [(0, ⟨some pp0, .var (m1.1 : T_mcase_Codes)⟩), (8, ⟨some p2, .varX (m1.2.1 : T_api_Role) [(2, slv g3.1 m1.2.2.length g3.2)]⟩), (9, ⟨g3.1, .row 209 (m1.2.2 : List T_api_Grant) g3.2⟩)]) (fun g3 => ?_) (fun hm hc => ?_) fun hm hc => ?_
    ·clear hm1
     refine To.next ?_
     refine Qsr ?_
     refine Qm ?_
     refine Sq.bring 0 rfl ?_
     obtain ⟨y10,hy10,h⟩:=Qbs h
     refine QcO 1 en54 (C_mcase_Codes_Bool hy10) fun q9 => ?_
     refine Qnx ?_
     obtain ⟨m2,hm2,h⟩:=Qbs h
     refine Qcm (γ:=(Option Nat × Nat)) [0, 1, 4, 5, 6, 7, 9, 10, 11, 30, 31, 32, 33, 45, 46, 47, 70, 86] (fun g4 => []) (fun g4 => [(0, ⟨some pp0, .var (m2.1 : T_mcase_Codes)⟩), (5, ⟨some p3, .varX (m2.2.1 : T_api_Role) [(2, slv g4.1 m2.2.2.length g4.2)]⟩), (6, ⟨g4.1, .row 209 (m2.2.2 : List T_api_Grant) g4.2⟩)]) (fun g4 => ?_) (fun hm hc => ?_) fun hm hc => ?_
     ·clear hm2
      refine To.bnorm ?_
      refine To.next ?_
      refine Wp.reg ?_
      refine Q2 r_add ?_
      refine Qm ?_
      refine Sq.nil ?_
      refine To.bring 6 rfl ?_
      refine To.bring 6 rfl ?_
      refine To.bring 6 rfl ?_
      refine To.bring 6 rfl ?_
      refine To.bring 6 rfl ?_
      refine To.bring 6 rfl ?_
      obtain rfl:=some_in h
      exact Qrd ((g4.1, g4.2), (g3.1, g3.2), (key3, cap1)) 3
     ·have h := cond_t hc hm2
      obtain ⟨y11,hy11,h⟩:=Qbs h
      obtain ⟨y12,hy12,h⟩:=Qbs h
      obtain ⟨z2,hz2,h⟩:=Qbs h
      obtain ⟨y13,hy13,h⟩:=Qbs h
      refine Qwl [0, 1, 4, 5, 6, 7, 9, 10, 11, 30, 31, 32, 33, 45, 46, 47, 70, 85, 86] ?_
      refine Wp.drawD mixed (Hp 87 [] [] _ :: Hp 88 (0 :: []) (5 :: []) _ :: Hp 89 [] [] _ :: Hp 90 (2 :: []) (3 :: []) _ :: Hp 91 [] [] _ :: ⟨some 92, (4 :: []), (0 :: []), (0 :: []), fun _ => VP.of (y11.1), fun hd _ => ⟨some pp0, .var (y11.2 : T_mcase_Codes)⟩⟩ :: Hp 93 [] [] _ :: ⟨some 94, (5 :: 6 :: []), (0 :: []), (0 :: []), fun _ => VP.of (y12.1), fun hd _ => ⟨some pp0, .var (y12.2 : T_mcase_Codes)⟩⟩ :: Hp 95 [] [] _ :: Hp 96 (3 :: 5 :: 7 :: 8 :: []) [] _ :: Hp 97 (9 :: []) [] _ :: ⟨some 98, (1 :: 10 :: []), (6 :: []), (6 :: []), fun hd => VP.eq (slv (hd 11 0) y13.length ((hd 11 1).getD 0)), fun hd _ => ⟨(hd 11 0), .row 209 (y13 : List T_api_Grant) ((hd 11 1).getD 0)⟩⟩ :: Hp 99 [] [] _ :: ⟨none, (1 :: 11 :: 12 :: []), (5 :: []), (5 :: []), fun _ => VP.any, fun hd _ => ⟨some p3, .varX (({ s1.2.1 with f_Grants := [] } : T_api_Role) : T_api_Role) [(2, slv (hd 11 0) y13.length ((hd 11 1).getD 0))]⟩⟩ :: []) _ (0 :: 1 :: 4 :: 5 :: 6 :: 7 :: 9 :: 10 :: 11 :: 30 :: 31 :: 32 :: 33 :: 45 :: 46 :: 47 :: 70 :: 85 :: 86 :: []) rfl rfl (by kernel_rfl) ⟨D1 (r_fa fd207_2), Dv fun hd E' L' hE hL => r_loadH (i := 5) (q := 0) (β := T_api_Role) (γ := T_api_Grant) ty205 (look_t (hE _ _ rfl)) (hL 5 _ rfl rfl) rfl, D1 (r_fa fd136_0), Dld 3 le_T_api_Table_ID ty3, Dm, ?_, Dm, ?_, Dm, Dv fun hd E' L' hE hL => (r_build (b := { f_Table := (lget x1 k1).f_ID, f_Read := y11.1, f_Write := y12.1, f_Keys := e2.2.2.2.1 : T_api_Grant }) rfl bu209 zr209 (.cons le_T_api_Grant_Table rfl (look_t (hE _ _ rfl)) rfl (.cons le_T_api_Grant_Read rfl (look_t (hE _ _ rfl)) rfl (.cons le_T_api_Grant_Write rfl (look_t (hE _ _ rfl)) rfl (.cons le_T_api_Grant_Keys rfl (look_t (hE _ _ rfl)) rfl (.nil)))))).as (some_in hz2), Dv fun hd E' L' hE hL => r_bsl (r := [z2]) Try.underlying205 ty209 zr209 rfl rfl (.cons (by simp) (look_t (hE _ _ rfl)) (.nil)), ?_, D1 (r_fa fd207_2), ?_, trivial⟩ fun hd => ?_
      ·intro hd E' L' hE hL
       refine Sq.bring 0 (hL 0 _ rfl rfl) ?_
       refine Sq.callO (Lin := [⟨some pp0, .var (y10.2 : T_mcase_Codes)⟩]) (Lr := L'.eraseIdx 0) en54 (C_mcase_Codes_Bool hy11) ⟨look_t (hE _ _ rfl), trivial⟩ rfl fun q10 => ?_
       refine Sq.nil ?_
       refine To.back 0 (hL 0 _ rfl rfl) ?_
       exact To.fin (gm []) rfl rfl
      ·intro hd E' L' hE hL
       refine Sq.bring 0 (hL 0 _ rfl rfl) ?_
       refine Sq.callO (Lin := [⟨some pp0, .var (y11.2 : T_mcase_Codes)⟩]) (Lr := L'.eraseIdx 0) en54 (C_mcase_Codes_Bool hy12) ⟨look_t (hE _ _ rfl), trivial⟩ rfl fun q11 => ?_
       refine Sq.nil ?_
       refine To.back 0 (hL 0 _ rfl rfl) ?_
       exact To.fin (gm []) rfl rfl
      ·intro hd E' L' hE hL
       refine Sq.app (i := 6) Try.underlying205 ty209 zr209 (bytes := 40) (by kernel_rfl) (look_t (hE _ _ rfl)) (hL 6 _ rfl rfl) (look_t (hE _ _ rfl)) hy13 rfl fun key4 cap2 => ?_
       refine Sq.nil ?_
       exact To.fin (gm [key4, some cap2]) rfl rfl
      ·intro hd E' L' hE hL
       refine Sq.storeH (i := 5) (γ := T_api_Grant) (b' := (({ s1.2.1 with f_Grants := [] } : T_api_Role) : T_api_Role)) (os' := [(2, slv (hd 11 0) y13.length ((hd 11 1).getD 0))]) ((Lens.id T_api_Role).comp le_T_api_Role_Grants) ty205 (look_t (hE _ _ rfl)) (look_t (hE _ _ rfl)) slv_one (hL 5 _ rfl rfl) rfl rfl rfl ?_
       refine Sq.nil ?_
       exact To.fin (gm []) rfl rfl
      refine To.eqL (L2 := [⟨some pp0, .var (y12.2 : T_mcase_Codes)⟩, ⟨none, .dead⟩, ⟨none, .dead⟩, ⟨some p4, .var (lget x1 k1 : T_api_Table)⟩, ⟨none, .row 209 (([] : List T_api_Grant) : List T_api_Grant) 0⟩, ⟨some p3, .varX (({ s1.2.1 with f_Grants := [] } : T_api_Role) : T_api_Role) [(2, slv (hd 11 0) y13.length ((hd 11 1).getD 0))]⟩, ⟨(hd 11 0), .row 209 (y13 : List T_api_Grant) ((hd 11 1).getD 0)⟩, ⟨none, .row 209 (([] : List T_api_Grant) : List T_api_Grant) 0⟩, ⟨some p2, .varX (m1.2.1 : T_api_Role) [(2, slv g3.1 m1.2.2.length g3.2)]⟩, ⟨g3.1, .row 209 (m1.2.2 : List T_api_Grant) g3.2⟩, ⟨none, .row 209 (([] : List T_api_Grant) : List T_api_Grant) 0⟩, ⟨some p1, .varX (({ s1.2.2.2.2.2.2.1 with f_Grants := [] } : T_api_Role) : T_api_Role) [(2, slv key3 y8.length cap1)]⟩, ⟨key3, .row 209 (y8 : List T_api_Grant) cap1⟩]) rfl ?_
      refine Qtl [0, 1, 4, 5, 6, 7, 9, 10, 11, 30, 31, 32, 33, 45, 46, 47, 70, 85, 86, 87, 89, 90, 91, 92, 93, 94, 95, 96, 97, 98, 99] ?_
      obtain rfl:=some_in h
      exact Qmt 0 (hm ((hd 11 0), ((hd 11 1).getD 0)))
     ·have h := cond_f hc hm2
      refine Wp.skip ?_
      obtain rfl:=some_in h
      exact Qmt 0 (hm (g1.1.1, g1.1.2))
    ·have h := cond_t hc hm1
     obtain ⟨y14,hy14,h⟩:=Qbs h
     obtain ⟨y15,hy15,h⟩:=Qbs h
     obtain ⟨z3,hz3,h⟩:=Qbs h
     obtain ⟨y16,hy16,h⟩:=Qbs h
     refine Qwl [0, 1, 4, 5, 6, 7, 9, 10, 11, 30, 31, 32, 33, 45, 46, 47, 59, 61, 62, 63, 64, 65, 66, 67, 68, 69, 70] ?_
     refine Wp.drawD mixed (Hp 71 [] [] _ :: Hp 72 (0 :: []) (8 :: []) _ :: Hp 73 [] [] _ :: Hp 74 (2 :: []) (3 :: []) _ :: Hp 75 [] [] _ :: ⟨some 76, (4 :: []), (0 :: []), (0 :: []), fun _ => VP.of (y14.1), fun hd _ => ⟨some pp0, .var (y14.2 : T_mcase_Codes)⟩⟩ :: Hp 77 (5 :: []) [] _ :: Hp 78 [] [] _ :: ⟨some 79, (5 :: 7 :: []), (0 :: []), (0 :: []), fun _ => VP.of (y15.1), fun hd _ => ⟨some pp0, .var (y15.2 : T_mcase_Codes)⟩⟩ :: Hp 80 [] [] _ :: Hp 81 (3 :: 6 :: 8 :: 9 :: []) [] _ :: Hp 82 (10 :: []) [] _ :: ⟨some 83, (1 :: 11 :: []), (9 :: []), (9 :: []), fun hd => VP.eq (slv (hd 12 0) y16.length ((hd 12 1).getD 0)), fun hd _ => ⟨(hd 12 0), .row 209 (y16 : List T_api_Grant) ((hd 12 1).getD 0)⟩⟩ :: Hp 84 [] [] _ :: ⟨none, (1 :: 12 :: 13 :: []), (8 :: []), (8 :: []), fun _ => VP.any, fun hd _ => ⟨some p2, .varX (({ s1.2.2.2.2.1 with f_Grants := [] } : T_api_Role) : T_api_Role) [(2, slv (hd 12 0) y16.length ((hd 12 1).getD 0))]⟩⟩ :: []) _ (0 :: 1 :: 4 :: 5 :: 6 :: 7 :: 9 :: 10 :: 11 :: 30 :: 31 :: 32 :: 33 :: 45 :: 46 :: 47 :: 59 :: 61 :: 62 :: 63 :: 64 :: 65 :: 66 :: 67 :: 68 :: 69 :: 70 :: []) rfl rfl (by kernel_rfl) ⟨D1 (r_fa fd207_2), Dv fun hd E' L' hE hL => r_loadH (i := 8) (q := 0) (β := T_api_Role) (γ := T_api_Grant) ty205 (look_t (hE _ _ rfl)) (hL 8 _ rfl rfl) rfl, D1 (r_fa fd136_0), Dld 3 le_T_api_Table_ID ty3, Dm, ?_, D2 r_gtr, Dm, ?_, Dm, Dv fun hd E' L' hE hL => (r_build (b := { f_Table := (lget x1 k1).f_ID, f_Read := decide (y14.1 > 0), f_Write := y15.1, f_Keys := e2.2.2.1 : T_api_Grant }) rfl bu209 zr209 (.cons le_T_api_Grant_Table rfl (look_t (hE _ _ rfl)) rfl (.cons le_T_api_Grant_Read rfl (look_t (hE _ _ rfl)) rfl (.cons le_T_api_Grant_Write rfl (look_t (hE _ _ rfl)) rfl (.cons le_T_api_Grant_Keys rfl (look_t (hE _ _ rfl)) rfl (.nil)))))).as (some_in hz3), Dv fun hd E' L' hE hL => r_bsl (r := [z3]) Try.underlying205 ty209 zr209 rfl rfl (.cons (by simp) (look_t (hE _ _ rfl)) (.nil)), ?_, D1 (r_fa fd207_2), ?_, trivial⟩ fun hd => ?_
     ·intro hd E' L' hE hL
      refine Sq.bring 0 (hL 0 _ rfl rfl) ?_
      refine Sq.callO (Lin := [⟨some pp0, .var (y9.2 : T_mcase_Codes)⟩]) (Lr := L'.eraseIdx 0) en49 (C_mcase_Codes_Next hy14) ⟨look_t (hE _ _ rfl), look_int 4, trivial⟩ rfl fun q12 => ?_
      refine Sq.nil ?_
      refine To.back 0 (hL 0 _ rfl rfl) ?_
      exact To.fin (gm []) rfl rfl
     ·intro hd E' L' hE hL
      refine Sq.bring 0 (hL 0 _ rfl rfl) ?_
      refine Sq.callO (Lin := [⟨some pp0, .var (y14.2 : T_mcase_Codes)⟩]) (Lr := L'.eraseIdx 0) en54 (C_mcase_Codes_Bool hy15) ⟨look_t (hE _ _ rfl), trivial⟩ rfl fun q13 => ?_
      refine Sq.nil ?_
      refine To.back 0 (hL 0 _ rfl rfl) ?_
      exact To.fin (gm []) rfl rfl
     ·intro hd E' L' hE hL
      refine Sq.app (i := 9) Try.underlying205 ty209 zr209 (bytes := 40) (by kernel_rfl) (look_t (hE _ _ rfl)) (hL 9 _ rfl rfl) (look_t (hE _ _ rfl)) hy16 rfl fun key5 cap3 => ?_
      refine Sq.nil ?_
      exact To.fin (gm [key5, some cap3]) rfl rfl
     ·intro hd E' L' hE hL
      refine Sq.storeH (i := 8) (γ := T_api_Grant) (b' := (({ s1.2.2.2.2.1 with f_Grants := [] } : T_api_Role) : T_api_Role)) (os' := [(2, slv (hd 12 0) y16.length ((hd 12 1).getD 0))]) ((Lens.id T_api_Role).comp le_T_api_Role_Grants) ty205 (look_t (hE _ _ rfl)) (look_t (hE _ _ rfl)) slv_one (hL 8 _ rfl rfl) rfl rfl rfl ?_
      refine Sq.nil ?_
      exact To.fin (gm []) rfl rfl
     refine To.eqL (L2 := [⟨some pp0, .var (y15.2 : T_mcase_Codes)⟩, ⟨none, .dead⟩, ⟨none, .dead⟩, ⟨some p4, .var (lget x1 k1 : T_api_Table)⟩, ⟨none, .row 209 (([] : List T_api_Grant) : List T_api_Grant) 0⟩, ⟨some p3, .varX (s1.2.1 : T_api_Role) [(2, slv g1.1.1 s1.2.2.1.length g1.1.2)]⟩, ⟨g1.1.1, .row 209 (s1.2.2.1 : List T_api_Grant) g1.1.2⟩, ⟨none, .row 209 (([] : List T_api_Grant) : List T_api_Grant) 0⟩, ⟨some p2, .varX (({ s1.2.2.2.2.1 with f_Grants := [] } : T_api_Role) : T_api_Role) [(2, slv (hd 12 0) y16.length ((hd 12 1).getD 0))]⟩, ⟨(hd 12 0), .row 209 (y16 : List T_api_Grant) ((hd 12 1).getD 0)⟩, ⟨none, .row 209 (([] : List T_api_Grant) : List T_api_Grant) 0⟩, ⟨some p1, .varX (({ s1.2.2.2.2.2.2.1 with f_Grants := [] } : T_api_Role) : T_api_Role) [(2, slv key3 y8.length cap1)]⟩, ⟨key3, .row 209 (y8 : List T_api_Grant) cap1⟩]) rfl ?_
     refine Qtl [0, 1, 4, 5, 6, 7, 9, 10, 11, 30, 31, 32, 33, 45, 46, 47, 59, 61, 62, 63, 64, 65, 66, 67, 68, 69, 70, 71, 73, 74, 75, 76, 77, 78, 79, 80, 81, 82, 83, 84] ?_
     obtain rfl:=some_in h
     exact Qmt 0 (hm ((hd 12 0), ((hd 12 1).getD 0)))
    ·have h := cond_f hc hm1
     refine Wp.skip ?_
     obtain rfl:=some_in h
     exact Qmt 0 (hm (g1.2.1.1, g1.2.1.2))
  ·refine Wp.exit ?_
   refine To.exit ?_
   obtain rfl:=some_in h
   exact Qlv ((g1.1.1, g1.1.2), (g1.2.1.1, g1.2.1.2), (g1.2.2.1, g1.2.2.2)) 0
 ·clear hl
  refine To.bexit ?_
  refine To.next ?_
  refine Qsr ?_
  refine Sq.thaw (β := T_api_Role) (γ := T_api_Grant) (b' := (({ e1.2.2.2.2.2.2.2.1 with f_Grants := e1.2.2.2.2.2.2.2.2 } : T_api_Role) : T_api_Role)) ((Lens.id T_api_Role).comp le_T_api_Role_Grants) 8 9 0 rfl rfl rfl rfl rfl rfl ?_
  refine Sq.fromX 8 rfl ?_
  obtain ⟨z4,hz4,h⟩:=Qbs h
  refine Qn hz4 (r_load (i := 8) (Lens.id T_api_Role) (r := ({ e1.2.2.2.2.2.2.2.1 with f_Grants := e1.2.2.2.2.2.2.2.2 } : T_api_Role)) ty207 (look_t rfl) rfl rfl rfl) ?_
  refine Sq.thaw (β := T_api_Role) (γ := T_api_Grant) (b' := (({ e1.2.2.2.2.2.1 with f_Grants := e1.2.2.2.2.2.2.1 } : T_api_Role) : T_api_Role)) ((Lens.id T_api_Role).comp le_T_api_Role_Grants) 5 6 0 rfl rfl rfl rfl rfl rfl ?_
  refine Sq.fromX 5 rfl ?_
  refine Ql0 5 ty207 ?_
  refine Sq.thaw (β := T_api_Role) (γ := T_api_Grant) (b' := (({ e1.2.2.1 with f_Grants := e1.2.2.2.1 } : T_api_Role) : T_api_Role)) ((Lens.id T_api_Role).comp le_T_api_Role_Grants) 1 2 0 rfl rfl rfl rfl rfl rfl ?_
  refine Sq.fromX 1 rfl ?_
  refine Ql0 1 ty207 ?_
  obtain ⟨z5,hz5,h⟩:=Qbs h
  refine Qn hz5 (r_bsl (r := [z4, ({ e1.2.2.2.2.2.1 with f_Grants := e1.2.2.2.2.2.2.1 } : T_api_Role), ({ e1.2.2.1 with f_Grants := e1.2.2.2.1 } : T_api_Role)]) Try.underlying30 ty207 zr207 rfl rfl (.cons (by simp) (look_t rfl) (.cons (by simp) (look_t rfl) (.cons (by simp) (look_t rfl) (.nil))))) ?_
  refine Qa ?_
  refine Qnx ?_
  refine Wp.ret ?_
  refine To.bring 3 rfl ?_
  obtain rfl:=some_in h
  exact Qo1 ()
theorem C_cube_fixed {x0 : T_api_Match} {x1 : Int} {x2 : Int}  {r : T_api_Value} (h : L_cube_fixed x0 x1 x2 = some r) : Meets Try.prog 157 [VP.of (x0), VP.of (x1), VP.of (x2)] (VP.of (r)) := by
 unfold L_cube_fixed at h
 refine Meets.of Try.func157 rfl Try.ntmps157 rfl fun W A => ?_
 refine Qsr ?_
 refine Qbx fun p1 => ?_
 refine Qal zr47 fun p2 => ?_
 refine Qns ?_
 refine Wp.block ?_
 refine Qsr ?_
 refine Q1 (r_fa fd104_0) ?_
 refine Qld 1 le_T_api_Match_Present ty4 ?_
 refine Q1 r_not ?_
 refine Qa ?_
 refine Qnx ?_
 refine Qcd h (fun h=>?_) fun h=>?_
 ·refine Qsr ?_
  refine Qbd bu47 zr47 (default : T_api_Value) .nil ?_
  refine Qs0 0 ty47 ?_
  refine Qnx ?_
  refine Wp.ret ?_
  refine To.bret ?_
  refine To.ret ?_
  obtain rfl:=some_in h
  exact To.end1 rfl (Qrc 0 ty47)
 ·refine Qsr ?_
  refine Qm ?_
  refine Q2 r_eql ?_
  refine Qa ?_
  refine Qnx ?_
  refine Qcd h (fun h=>?_) fun h=>?_
  ·refine Qsr ?_
   refine Qm ?_
   obtain ⟨y1,hy1,h⟩:=Qbs h
   refine Qcl en184 (C_value_Ones hy1) ?_
   refine Qs0 0 ty47 ?_
   refine Qnx ?_
   refine Wp.ret ?_
   refine To.bret ?_
   refine To.ret ?_
   obtain rfl:=some_in h
   exact To.end1 rfl (Qrc 0 ty47)
  ·refine Qsr ?_
   refine Qm ?_
   refine Q2 r_eql ?_
   refine Qa ?_
   refine Qnx ?_
   refine Qcd h (fun h=>?_) fun h=>?_
   ·refine Qsr ?_
    refine Qm ?_
    refine Q1 (r_fa fd104_3) ?_
    refine Qld 1 le_T_api_Match_Prefix ty3 ?_
    obtain ⟨y2,hy2,h⟩:=Qbs h
    refine Qcl en177 (C_value_Leading hy2) ?_
    refine Qs0 0 ty47 ?_
    refine Qnx ?_
    refine Wp.ret ?_
    refine To.bret ?_
    refine To.ret ?_
    obtain rfl:=some_in h
    exact To.end1 rfl (Qrc 0 ty47)
   ·refine Wp.skip ?_
    refine To.bnorm ?_
    refine To.next ?_
    refine Qsr ?_
    refine Q1 (r_fa fd104_2) ?_
    refine Qld 1 le_T_api_Match_Mask ty47 ?_
    refine Qs0 0 ty47 ?_
    refine Qnx ?_
    refine Wp.ret ?_
    obtain rfl:=some_in h
    exact To.end1 rfl (Qrc 0 ty47)
theorem C_entry_Prefix {x0 : T_api_Schema} {x1 : T_api_Entry}  {r : Int} (h : L_entry_Prefix x0 x1 = some r) : Meets Try.prog 146 [VP.of (x0), VP.of (x1)] (VP.of (r)) := by
 unfold L_entry_Prefix at h
 refine Meets.of Try.func146 rfl Try.ntmps146 rfl fun W A => ?_
 refine Qsr ?_
 refine Qbx fun p1 => ?_
 refine Qbx fun p2 => ?_
 refine Qa ?_
 refine Qnr ?_
 refine Ql0 1 ty33 ?_
 refine Ql0 0 ty89 ?_
 obtain ⟨y1,hy1,h⟩:=Qbs h
 refine Qcl en139 (C_entry_table hy1) ?_
 refine Qm ?_
 refine Qxt ?_
 refine Qxt ?_
 refine Qal zr136 fun p3 => ?_
 refine Qs0 0 ty136 ?_
 refine Qa ?_
 refine Qnr ?_
 refine Q1 (r_fa fd136_2) ?_
 refine Qld 0 le_T_api_Table_Keys ty134 ?_
 obtain ⟨y2,hy2,h⟩:=Qbs h
 refine Qv (r_call en155 (C_slices_IndexFunc_api_Key hy2) ⟨look_t rfl, look_fn1 en179 (fun _ _ => C_entry_Prefix_fn1), trivial⟩) ?_
 refine Qa ?_
 refine Qns ?_
 refine Qsr ?_
 refine Qm ?_
 refine Q1 r_not ?_
 refine Qm ?_
 refine Qg1 r_move ?_
 refine Qg2 r_lss ?_
 refine Qor ?_
 refine Qm ?_
 refine Qg1 r_move ?_
 refine Qg1 (r_fa fd89_1) ?_
 refine Qg (fun hb => r_load (i := 1) ((Lens.id T_api_Entry).comp le_T_api_Entry_Matches) (r := x1.f_Matches) ty87 (look_tc rfl hb) rfl rfl rfl) ?_
 refine Qg1 (r_len Try.underlying87) ?_
 refine Qg2 r_geq ?_
 obtain ⟨z1,hz1,h⟩:=Qbs h
 refine Qn hz1 (r_or (look_t rfl) (look_t rfl) (fun h => h)) ?_
 refine Qnx ?_
 refine Qcd h (fun h=>?_) fun h=>?_
 ·refine Qsr ?_
  refine Qa ?_
  refine Qnx ?_
  refine Wp.ret ?_
  refine To.ret ?_
  obtain rfl:=some_in h
  exact Qe1
 ·refine Qkn ?_
  refine Qsr ?_
  refine Q1 (r_fa fd89_1) ?_
  refine Qld 1 le_T_api_Entry_Matches ty87 ?_
  refine Qm ?_
  obtain ⟨k1,hk1,h⟩:=Qbs h
  refine Qix hk1 Try.underlying87 ty104 ?_
  refine Qfp le_T_api_Match_Prefix fd104_3 ?_
  refine Q1 (r_loadp ty3) ?_
  refine Qa ?_
  refine Qnx ?_
  refine Wp.ret ?_
  obtain rfl:=some_in h
  exact Qe1
theorem C_cover_near {x0 : T_cube_Cube} {x1 : List T_cube_Cube}  {r : (List T_cube_Cube)} (h : L_cover_near x0 x1 = some r) : Meets Try.prog 131 [VP.of (x0), VP.of (x1)] (VP.of (r)) := by
 unfold L_cover_near at h
 refine Meets.of Try.func131 rfl Try.ntmps131 rfl fun W A => ?_
 refine Qsr ?_
 refine Qbx fun p1 => ?_
 refine Qv (r_asg (look_nil (α := T_cube_Cube))) ?_
 refine Qnr ?_
 refine Qm ?_
 obtain ⟨y1,hy1,h⟩:=Qbs h
 refine QcO 0 en161 (Co_slices_Clone_cube_Cube hy1) fun q1 => ?_
 refine Sq.share (α := T_cube_Cube) 1 2 rfl rfl ?_
 refine Qv (r_clo1 (F := (fun a0 => L_cover_near_fn1 a0 x0)) (τs := [VP.ptr x0]) en162 ⟨look_t rfl, trivial⟩ (fun _ _ h => C_cover_near_fn1 h)) ?_
 refine Sq.bring 0 rfl ?_
 obtain ⟨y2,hy2,h⟩:=Qbs h
 refine QcO 1 en160 (Cp0_slices_DeleteFunc_cube_Cube hy2) fun q2 => ?_
 refine Qa ?_
 refine Qnx ?_
 refine Wp.ret ?_
 obtain rfl:=some_in h
 exact Qe1
theorem C_cover_covered_fn1 {x0 : T_cube_Cube} {x1 : T_cube_Cube}  {r : Bool} (h : L_cover_covered_fn1 x0 x1 = some r) : Meets Try.prog 165 [VP.of (x0), VP.ptr x1] (VP.of (r)) := by
 unfold L_cover_covered_fn1 at h
 refine Meets.of Try.func165 rfl Try.ntmps165 rfl fun W A => ?_
 refine Qsr ?_
 refine Qbx fun p1 => ?_
 refine Qa ?_
 refine Qnr ?_
 refine Q1 (r_loadp ty185) ?_
 refine Ql0 0 ty185 ?_
 obtain ⟨y1,hy1,h⟩:=Qbs h
 refine Qcl en166 (C_cube_Within hy1) ?_
 refine Qa ?_
 refine Qnx ?_
 refine Wp.ret ?_
 obtain rfl:=some_in h
 exact Qe1
theorem C_cover_wanted {x0 : T_cube_Cube} {x1 : List T_cube_Cube}  {r : (Vector T_api_Value 4) × (Vector T_api_Value 4)} (h : L_cover_wanted x0 x1 = some r) : Meets Try.prog 167 [VP.of (x0), VP.of (x1)] (VP.tup [VP.of (r.1), VP.of (r.2)]) := by
 unfold L_cover_wanted at h
 refine Meets.of Try.func167 rfl Try.ntmps167 rfl fun W A => ?_
 refine Qsr ?_
 refine Qbx fun p1 => ?_
 refine Qal zr81 fun p2 => ?_
 refine Qal zr81 fun p3 => ?_
 refine Qns ?_
 refine Qsr ?_
 refine Qm ?_
 refine Q1 (r_len Try.underlying186) ?_
 refine Qm ?_
 refine Qnx ?_
 refine Wp.block ?_
 obtain ⟨e1,hl,h⟩:=Qbs h
 refine Qlp (γ:=Unit) (δ:=Unit) hl [0, 1, 2, 4, 5, 11, 12] (fun s1 g1 => [(13, VP.of (s1.1))]) (fun s1 g1 => [(0, ⟨some p3, .var (s1.2.1 : Vector T_api_Value 4)⟩), (1, ⟨some p2, .var (s1.2.2 : Vector T_api_Value 4)⟩)]) (fun q1 => Exit.exit 0) (fun q1 g1 => [(13, VP.of (q1.1)), (14, VP.of (q1.2.1))]) (fun q1 g1 => [(0, ⟨some p3, .var (q1.2.2.1 : Vector T_api_Value 4)⟩), (1, ⟨some p2, .var (q1.2.2.2 : Vector T_api_Value 4)⟩)]) () (fun s1 r h g1 => ?_) fun g1 => ?_
 ·clear hl
  refine Qsr ?_
  refine Q2 r_lss ?_
  refine Qns ?_
  refine Qcd h (fun h=>?_) fun h=>?_
  ·refine Qkn ?_
   refine Wp.seq ?_
   refine Wp.block ?_
   refine Qsr ?_
   obtain ⟨k1,hk1,h⟩:=Qbs h
   refine Qix hk1 Try.underlying186 ty185 ?_
   refine Q1 (r_loadp ty185) ?_
   refine Qal zr185 fun p4 => ?_
   refine Qs0 0 ty185 ?_
   refine Qnr ?_
   refine Q1 (r_fa fd185_1) ?_
   refine Qld 0 le_T_cube_Cube_Mask ty81 ?_
   refine Qm ?_
   refine Qnx ?_
   refine Wp.block ?_
   obtain ⟨e2,hl,h⟩:=Qbs h
   refine Qlp (γ:=Unit) (δ:=Unit) hl [0, 1, 2, 4, 5, 7, 11, 12, 13, 14, 18] (fun s2 g2 => [(19, VP.of (s2.1))]) (fun s2 g2 => [(1, ⟨some p3, .var (s2.2.1 : Vector T_api_Value 4)⟩), (2, ⟨some p2, .var (s2.2.2 : Vector T_api_Value 4)⟩)]) (fun q2 => Exit.exit 2) (fun q2 g2 => [(19, VP.of (q2.1)), (20, VP.of (q2.2.1))]) (fun q2 g2 => [(1, ⟨some p3, .var (q2.2.2.1 : Vector T_api_Value 4)⟩), (2, ⟨some p2, .var (q2.2.2.2 : Vector T_api_Value 4)⟩)]) () (fun s2 r h g2 => ?_) fun g2 => ?_
   ·clear hl
    refine Qsr ?_
    refine Q2 r_lss ?_
    refine Qns ?_
    refine Qcd h (fun h=>?_) fun h=>?_
    ·refine Qkn ?_
     refine Wp.seq ?_
     refine Wp.block ?_
     refine Qsr ?_
     refine Qm ?_
     obtain ⟨k2,hk2,h⟩:=Qbs h
     refine Qv (r_index (k := k2) Try.underlying81 ty47 (look_t rfl) (look_t rfl) (idx_some hk2)) ?_
     refine Qal zr47 fun p5 => ?_
     refine Qa ?_
     refine Qs0 0 ty47 ?_
     refine Qns ?_
     obtain ⟨k3,hk3,h⟩:=Qbs h
     obtain ⟨y1,hy1,h⟩:=Qbs h
     obtain ⟨y2,hy2,h⟩:=Qbs h
     refine Wp.draw mixed 8 [some 23, some 24, some 25, some 26, some 27, some 28, some 29, some 10] [[], [], [], [1, 2], [3], [4], [0, 5], []] [.val _, .val _, .val _, .val _, .val _, .val _, .val _, .new (.var (default : T_api_Value))] [false, false, false, false, false, false, false, false] (by kernel_rfl) rfl rfl rfl (fun ps1 => ⟨Hl0 0 ty47, Hm, H1 (r_fa fd185_1), Hv fun L' hL => r_ia (k := k3) ar81 (look_t rfl) (look_t rfl) (idx_some hk3), Hld 4 (((Lens.id T_cube_Cube).comp le_T_cube_Cube_Mask).comp (Lens.idx (α := T_api_Value) 4 k3 (idx_some hk3).1)) ty47, Hcl en188 (C_value_Not hy1), Hcl en158 (C_value_And hy2), ao_alloc zr47, trivial⟩) fun ps1 => ?_
     refine Qs0 0 ty47 ?_
     refine Qns ?_
     obtain ⟨k4,hk4,h⟩:=Qbs h
     obtain ⟨k5,hk5,h⟩:=Qbs h
     obtain ⟨y3,hy3,h⟩:=Qbs h
     obtain ⟨y4,hy4,h⟩:=Qbs h
     obtain ⟨k6,hk6,h⟩:=Qbs h
     refine Wp.draw mixed 12 [some 30, some 31, some 32, some 33, some 34, some 35, some 36, some 37, some 38, some 39, some 40, some 41] [[], [], [1], [2], [], [], [], [5, 6], [7], [4, 8], [3, 9], [0]] [.val _, .val _, .val _, .val _, .val _, .val _, .val _, .val _, .val _, .val _, .val _, .val _] [false, false, false, false, false, false, false, false, false, false, false, false] (by kernel_rfl) rfl rfl rfl (fun ps2 => ⟨Hm, Hm, Hv fun L' hL => r_ia (k := k4) ar81 (look_t rfl) (look_t rfl) (idx_some hk4), Hld 3 ((Lens.id (Vector T_api_Value 4)).comp (Lens.idx (α := T_api_Value) 4 k4 (idx_some hk4).1)) ty47, Hl0 0 ty47, Hm, H1 (r_fa fd185_0), Hv fun L' hL => r_ia (k := k5) ar81 (look_t rfl) (look_t rfl) (idx_some hk5), Hld 2 (((Lens.id T_cube_Cube).comp le_T_cube_Cube_Value).comp (Lens.idx (α := T_api_Value) 4 k5 (idx_some hk5).1)) ty47, Hcl en158 (C_value_And hy3), Hcl en174 (C_value_Or hy4), Hv fun L' hL => r_ia (k := k6) ar81 (look_t rfl) (look_t rfl) (idx_some hk6), trivial⟩) fun ps2 => ?_
     refine Qst 3 ((Lens.id (Vector T_api_Value 4)).comp (Lens.idx (α := T_api_Value) 4 k6 (idx_some hk6).1)) ty47 ?_
     refine Qnx ?_
     obtain ⟨k7,hk7,h⟩:=Qbs h
     obtain ⟨k8,hk8,h⟩:=Qbs h
     obtain ⟨y5,hy5,h⟩:=Qbs h
     obtain ⟨y6,hy6,h⟩:=Qbs h
     obtain ⟨y7,hy7,h⟩:=Qbs h
     obtain ⟨k9,hk9,h⟩:=Qbs h
     refine Wp.draw mixed 13 [some 42, some 43, some 44, some 45, some 46, some 47, some 48, some 49, some 50, some 51, some 52, some 53, some 54] [[], [], [1], [2], [], [], [], [5, 6], [7], [8], [4, 9], [3, 10], [0]] [.val _, .val _, .val _, .val _, .val _, .val _, .val _, .val _, .val _, .val _, .val _, .val _, .val _] [false, false, false, false, false, false, false, false, false, false, false, false, false] (by kernel_rfl) rfl rfl rfl (fun ps3 => ⟨Hm, Hm, Hv fun L' hL => r_ia (k := k7) ar81 (look_t rfl) (look_t rfl) (idx_some hk7), Hld 4 ((Lens.id (Vector T_api_Value 4)).comp (Lens.idx (α := T_api_Value) 4 k7 (idx_some hk7).1)) ty47, Hl0 0 ty47, Hm, H1 (r_fa fd185_0), Hv fun L' hL => r_ia (k := k8) ar81 (look_t rfl) (look_t rfl) (idx_some hk8), Hld 2 (((Lens.id T_cube_Cube).comp le_T_cube_Cube_Value).comp (Lens.idx (α := T_api_Value) 4 k8 (idx_some hk8).1)) ty47, Hcl en188 (C_value_Not hy5), Hcl en158 (C_value_And hy6), Hcl en174 (C_value_Or hy7), Hv fun L' hL => r_ia (k := k9) ar81 (look_t rfl) (look_t rfl) (idx_some hk9), trivial⟩) fun ps3 => ?_
     refine Qst 4 ((Lens.id (Vector T_api_Value 4)).comp (Lens.idx (α := T_api_Value) 4 k9 (idx_some hk9).1)) ty47 ?_
     refine Sq.nil ?_
     refine To.bnorm ?_
     refine To.next ?_
     refine Wp.reg ?_
     refine Q2 r_add ?_
     refine Qm ?_
     refine Sq.nil ?_
     obtain rfl:=some_in h
     exact Qrd () 2
    ·refine Wp.exit ?_
     refine To.exit ?_
     obtain rfl:=some_in h
     exact Qlv () 0
   ·clear hl
    refine To.bexit ?_
    refine To.bnorm ?_
    refine To.next ?_
    refine Wp.reg ?_
    refine Q2 r_add ?_
    refine Qm ?_
    refine Sq.nil ?_
    obtain rfl:=some_in h
    exact Qrd () 1
  ·refine Wp.exit ?_
   refine To.exit ?_
   obtain rfl:=some_in h
   exact Qlv () 0
 ·clear hl
  refine To.bexit ?_
  refine To.next ?_
  refine Wp.seq ?_
  refine Wp.draw mixed 3 [some 57, some 58, none] [[], [], [0]] [.val _, .val _, .sto 1 (.var (e1.2.2.2 : Vector T_api_Value 4))] [false, false, true] (by kernel_rfl) rfl rfl rfl (fun ps4 => ⟨Hl0 1 ty81, Hl0 0 ty81, ⟨_, _, rfl, fun L' hL => so_var (i := 1) (Lens.id (Vector T_api_Value 4)) (v := (e1.2.2.2 : Vector T_api_Value 4)) (b' := (e1.2.2.2 : Vector T_api_Value 4)) ty81 (look_t rfl) (look_t rfl) (hL _ _ rfl) rfl rfl⟩, trivial⟩) fun ps4 => ?_
  refine Qs0 0 ty81 ?_
  refine Qnx ?_
  refine Wp.ret ?_
  obtain rfl:=some_in h
  exact To.end2 rfl (Qrc 1 ty81) (Qrc 0 ty81)
end Go.Proofs.Ytodajdohokmjnaa
